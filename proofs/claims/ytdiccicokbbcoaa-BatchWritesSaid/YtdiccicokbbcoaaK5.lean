/- The fifth text of the small logic: what an operation asks, and that the model does it. No condition. -/
import Derived.Test.YtdiccicokbbcoaaK4
set_option linter.unusedSimpArgs false
set_option linter.unusedVariables false
namespace Go.Kx
open Go Go.RowKit

theorem fill_run (place : Nat → Option (Nat × Nat)) : ∀ (ps : List (Nat × Value)) (qs : List (Nat × Nat × List Value)) (cells r : List Value),
    (ps.length = qs.length ∧ ∀ (j i : Nat) (v : Value), ps[j]? = some (i, v) → ∃ o n, place i = some (o, n) ∧ qs[j]? = some (o, n, v.cells.toList)) → fillL qs cells = some r → Instr.fill place cells.toArray ps = some r.toArray
  | [], qs, cells, r, h, hr => by
    have : qs = [] := List.eq_nil_of_length_eq_zero h.1.symm
    subst this
    simp only [fillL, Option.some.injEq] at hr
    subst hr
    rfl
  | (i, v) :: ps, qs, cells, r, h, hr => by
    cases qs with
    | nil => simp at h
    | cons q qs =>
      obtain ⟨o, n, hp, hq⟩ := h.2 0 i v rfl
      simp only [List.getElem?_cons_zero, Option.some.injEq] at hq
      subst hq
      simp only [fillL] at hr
      split at hr
      · rename_i hc
        have hvs : v.cells.size = n := by simpa using hc.1
        have ih := fill_run place ps qs (splice cells o v.cells.toList) r ⟨by simpa using h.1, fun j i' v' hj => by simpa using h.2 (j + 1) i' v' (by simpa using hj)⟩ hr
        have hs := set_splice v.cells.toList 0 o cells (by simp [hvs]; omega)
        simp only [Instr.fill, hp, hvs, ne_eq, not_true_eq_false, decide_false, Bool.false_or, List.size_toArray, gt_iff_lt, decide_eq_true_eq]
        rw [if_neg (by omega)]
        rw [← ih]
        congr 1
        rw [Nat.add_zero] at hs
        rw [← hs, ← Array.foldl_toList, Array.toList_zipIdx]
      · cases hr

/-! ### The owned part -/
def getR (s : Nat) : List Item → Option (List Value)
  | [] => none
  | .reg s' cs :: L => if s' = s then some cs else getR s L
  | _ :: L => getR s L
def setR (s : Nat) (cs : List Value) : List Item → List Item
  | [] => []
  | .reg s' c :: L => if s' = s then .reg s cs :: L else .reg s' c :: setR s cs L
  | it :: L => it :: setR s cs L
def rmR (s : Nat) : List Item → List Item
  | [] => []
  | .reg s' c :: L => if s' = s then rmR s L else .reg s' c :: rmR s L
  | it :: L => it :: rmR s L
theorem getR_split {s : Nat} {cs : List Value} : ∀ {L : List Item}, getR s L = some cs → ∃ L1 L2, L = L1 ++ .reg s cs :: L2 ∧ ∀ c, setR s c L = L1 ++ .reg s c :: L2
  | .reg s' c' :: L, h => by
    simp only [getR] at h
    split at h
    · rename_i he
      subst he
      cases h
      exact ⟨[], L, rfl, fun c => by simp [setR]⟩
    · rename_i he
      obtain ⟨L1, L2, rfl, h2⟩ := getR_split h
      exact ⟨.reg s' c' :: L1, L2, rfl, fun c => by simp [setR, he, h2]⟩
  | .blk b c' :: L, h => by
    obtain ⟨L1, L2, rfl, h2⟩ := getR_split (L := L) h
    exact ⟨.blk b c' :: L1, L2, rfl, fun c => by simp [setR, h2]⟩
  | .row v e sz n xs :: L, h => by
    obtain ⟨L1, L2, rfl, h2⟩ := getR_split (L := L) h
    exact ⟨.row v e sz n xs :: L1, L2, rfl, fun c => by simp [setR, h2]⟩
  | .obj b o :: L, h => by
    obtain ⟨L1, L2, rfl, h2⟩ := getR_split (L := L) h
    exact ⟨.obj b o :: L1, L2, rfl, fun c => by simp [setR, h2]⟩
theorem rmR_mem {s : Nat} : ∀ {L : List Item} {it : Item}, it ∈ rmR s L → it ∈ L ∧ ∀ c, it ≠ .reg s c
  | .reg s' c' :: L, it, h => by
    simp only [rmR] at h
    split at h
    · obtain ⟨h1, h2⟩ := rmR_mem h; exact ⟨List.mem_cons_of_mem _ h1, h2⟩
    · rename_i he
      rcases List.mem_cons.1 h with rfl | h
      · exact ⟨by simp, fun c hc => by injection hc with hc; exact he hc⟩
      · obtain ⟨h1, h2⟩ := rmR_mem h; exact ⟨List.mem_cons_of_mem _ h1, h2⟩
  | .blk b c' :: L, it, h => by
    simp only [rmR] at h
    rcases List.mem_cons.1 h with rfl | h
    · exact ⟨by simp, fun c hc => by cases hc⟩
    · obtain ⟨h1, h2⟩ := rmR_mem h; exact ⟨List.mem_cons_of_mem _ h1, h2⟩
  | .row v e sz n xs :: L, it, h => by
    simp only [rmR] at h
    rcases List.mem_cons.1 h with rfl | h
    · exact ⟨by simp, fun c hc => by cases hc⟩
    · obtain ⟨h1, h2⟩ := rmR_mem h; exact ⟨List.mem_cons_of_mem _ h1, h2⟩
  | .obj b o :: L, it, h => by
    simp only [rmR] at h
    rcases List.mem_cons.1 h with rfl | h
    · exact ⟨by simp, fun c hc => by cases hc⟩
    · obtain ⟨h1, h2⟩ := rmR_mem h; exact ⟨List.mem_cons_of_mem _ h1, h2⟩
theorem rmR_sub {s : Nat} : ∀ (L : List Item), (rmR s L).Sublist L
  | [] => .slnil
  | .reg s' c :: L => by
    simp only [rmR]
    split
    · exact .cons _ (rmR_sub L)
    · exact .cons_cons _ (rmR_sub L)
  | .blk b c' :: L => .cons_cons _ (rmR_sub L)
  | .row v e sz n xs :: L => .cons_cons _ (rmR_sub L)
  | .obj b o :: L => .cons_cons _ (rmR_sub L)
def cellsL (v : Value) : List Value := v.cells.toList
def ldC (cs : List Value) (o : Nat) : Option Nat → Option Value
  | none => cs[o]?
  | some k => if o + k ≤ cs.length then some (.agg ((cs.drop o).take k).toArray) else none
/-- Cells of what is owned, written. -/
inductive StL : List Item → Value → List Value → List Item → Prop
  | blk (L1 : List Item) {b o cs xs L2} (ho : o + xs.length ≤ cs.length) : StL (L1 ++ .blk b cs :: L2) (.pointer (some ⟨b, o, none⟩)) xs (L1 ++ .blk b (splice cs o xs) :: L2)
  | row (L1 : List Item) {g o n' c e sz n ys xs L2} (ho : o + xs.length ≤ ys.length) :
      StL (L1 ++ .row (.slice (some ⟨g, 0, none⟩) n' c) e sz n ys :: L2) (.pointer (some ⟨g, o, none⟩)) xs (L1 ++ .row (.slice (some ⟨g, 0, none⟩) n' c) e sz n (splice ys o xs) :: L2)
/-- A slice that is owned, or one without room. -/
def RowAt (L : List Item) (v : Value) (et : TypeId) (sz : Nat) (L1 : List Item) (n : Nat) (xs : List Value) (L2 : List Item) : Prop :=
  L = L1 ++ .row v et sz n xs :: L2 ∨ ((∃ A, v = .slice A 0 0) ∧ L1 = [] ∧ n = 0 ∧ xs = [] ∧ L2 = L)
/-- What is appended. -/
def SrcH (h : H) (v : Value) (sz m : Nat) (ys : List Value) : Prop :=
  (∀ u ∈ ys, u.oneCell' = true) ∧ ys.length = m * sz ∧
  ((∃ c, v = .slice none 0 c ∧ m = 0) ∨ (∃ a c, v = .slice (some a) m c ∧ ∀ j u, ys[j]? = some u → Ld1 h (a.add j) u) ∨ (∃ s, v = .string s ∧ sz = 1 ∧ ys = byteCells s ∧ m = s.size))

def intV : Value → Option Int
  | .int _ j => some j
  | _ => none
def bnd (e : Env) (dflt : Int) : Option O → Option Int
  | none => some dflt
  | some o => intV (ev e o)
def lenV : Bool → Value → Option Value
  | false, .slice _ n _ => some (.int .i64 n)
  | true, .string s => some (.int .i64 s.size)
  | _, _ => none
def mmV (mx : Bool) : Value → Value → Option Value
  | .int k x, .int _ y => some (.int k (if mx then (if x < y then y else x) else (if y < x then y else x)))
  | _, _ => none
def fldV (o : Nat) (n : Option Nat) : Value → Option Value
  | .agg cs => match n with
    | none => cs.toList[o]?
    | some k => some (.agg ((cs.toList.drop o).take k).toArray)
  | _ => none
def nckV : Value → Option Value
  | .pointer (some a) => some (.pointer (some a))
  | .func (.func g) a b => some (.func (.func g) a b)
  | _ => none
def flaV (o : Nat) : Value → Option Value
  | .pointer (some a) => some (.pointer (some (a.add o)))
  | _ => none
def extV (i : Nat) : Value → Option Value
  | .tuple vs => vs.toList[i]?
  | _ => none
def eqbV (ne : Bool) : Value → Value → Option Value
  | .bool a, .bool b => some (.bool (if ne then !(a == b) else a == b))
  | _, _ => none
def isnV (ne : Bool) : Value → Option Value
  | .slice A _ _ => some (.bool (if ne then A.isSome else A.isNone))
  | _ => none
def eqfV (ne : Bool) (ks : List Nat) : Value → Value → Option Value
  | .agg xs, .agg ys => (eqC ks xs.toList ys.toList).map fun t => .bool (if ne then !t else t)
  | _, _ => none
def cvI (k : IntKind) : Value → Option Value
  | .int _ n => some (.int k (k.wrap n))
  | _ => none
def ixPV (n sz : Nat) : Value → Value → Option Value
  | .pointer (some a), .int _ j => if 0 ≤ j ∧ j < n then some (.pointer (some (a.add (j.toNat * sz)))) else none
  | _, _ => none
def ixVV (n sz : Nat) (k : Option Nat) : Value → Value → Option Value
  | .agg cs, .int _ j => if 0 ≤ j ∧ j < n then fldV (j.toNat * sz) k (.agg cs) else none
  | _, _ => none
def pickO (c x y : Value) : Option Value :=
  match c with
  | .bool t => some (pickV t x y)
  | _ => none
def pureV : SOp → Env → Option Value
  | .mv _ x, e => some (ev e x)
  | .pick _ c x y, e => pickO (ev e c) (ev e x) (ev e y)
  | .bin _ op x y, e => binV op (ev e x) (ev e y)
  | .eqb _ ne x y, e => eqbV ne (ev e x) (ev e y)
  | .eqf _ ne ks x y, e => eqfV ne ks (ev e x) (ev e y)
  | .un _ op x, e => unV op (ev e x)
  | .isn _ ne x, e => isnV ne (ev e x)
  | .cvI _ k x, e => cvI k (ev e x)
  | .ext _ x i, e => extV i (ev e x)
  | .fld _ x o n, e => fldV o n (ev e x)
  | .bld _ z ps, e => (fillL (ps.map fun p => (p.1, p.2.1, cellsL (ev e p.2.2))) z).map fun cs => .agg cs.toArray
  | .mkf _ f cs, e => some (.func f #[] (cs.map (ev e)).toArray)
  | .len _ b x, e => lenV b (ev e x)
  | .mm _ mx x y, e => mmV mx (ev e x) (ev e y)
  | .nck _ x, e => nckV (ev e x)
  | .flA _ x o, e => flaV o (ev e x)
  | .ixP _ x i n sz, e => ixPV n sz (ev e x) (ev e i)
  | .ixV _ x i n sz k, e => ixVV n sz k (ev e x) (ev e i)
  | _, _ => none

/-- Bytes, as a text. -/
def StrAt (h : H) (v : Value) (s : ByteArray) : Prop :=
  (∃ c, v = .slice none 0 c ∧ s = .empty) ∨ (∃ a c, v = .slice (some a) s.size c ∧ ∀ j u, (byteCells s)[j]? = some u → Ld1 h (a.add j) u)
def YieldH (P : Program) (l : Nat) (args : Array Value) (h : H) (R : Value → H → Prop) : Prop :=
  ∀ β w, Sat β h w → ∃ f tmps assign body, (Instr.yield l args).run P w = .ok (.round l f tmps assign body) w ∧
    RoundIn (Fr none) 0 P l f tmps assign body w (fun x w' => ∃ v h', x = .returned v ∧ (h'.D = h.D ∧ RegSub h' h) ∧ Sat β h' w' ∧ Step β h w β h' w' ∧ R v h')
/-- A function value, called. -/
def CavH (P : Program) (fv : Value) (args : Array Value) (h : H) (R : Value → H → Prop) : Prop :=
  (∃ g cap, fv = .func (.func g) #[] cap ∧ CallsH P g (args ++ cap) h R) ∨ (∃ l, fv = .func (.yield l) #[] #[] ∧ YieldH P l args h R)

/-- What an operation asks; 'K': what is asked behind it. -/
def opS (P : Program) : SOp → Env → H → (Env → H → Prop) → Prop
  | .nop, e, h, K => K e h
  | .ixA d x i sz, e, h, K =>
    match ev e x, ev e i with
    | .slice A n _, .int _ j => (0 ≤ j ∧ j < n) ∧ ∃ a, A = some a ∧ K (e.set d (.pointer (some (a.add (j.toNat * sz))))) h
    | _, _ => False
  | .sl d x lo hi mx sz, e, h, K =>
    match ev e x with
    | .slice A n c =>
      match bnd e 0 lo, bnd e n hi, bnd e c mx with
      | some l, some u, some m => (0 ≤ l ∧ l ≤ u ∧ u ≤ m ∧ m ≤ c) ∧ K (e.set d (.slice (if m.toNat = l.toNat then A else A.map (·.add (l.toNat * sz))) (u.toNat - l.toNat) (m.toNat - l.toNat))) h
      | _, _, _ => False
    | _ => False
  | .alR s z, e, h, K => K e { h with L := .reg s z :: rmR s h.L }
  | .bxR s x, e, h, K => K e { h with L := .reg s (cellsL (ev e x)) :: rmR s h.L }
  | .ldR d s o n, e, h, K =>
    match getR s h.L with
    | some cs => match ldC cs o n with
      | some v => K (e.set d v) h
      | none => False
    | none => False
  | .stR s o n x, e, h, K =>
    match getR s h.L with
    | some cs => ((cellsL (ev e x)).length = n ∧ o + n ≤ cs.length ∧ (cellsL (ev e x)).all (·.oneCell') = true) ∧ K e { h with L := setR s (splice cs o (cellsL (ev e x))) h.L }
    | none => False
  | .al d z, e, h, K => ∀ b, h.G b = none → K (e.set d (.pointer (some ⟨b, 0, none⟩))) { h with L := .blk b z :: h.L }
  | .bx d x, e, h, K => ∀ b, h.G b = none → K (e.set d (.pointer (some ⟨b, 0, none⟩))) { h with L := .blk b (cellsL (ev e x)) :: h.L }
  | .ld d x n, e, h, K => ∃ v, LdN h (ev e x) n v ∧ K (e.set d v) h
  | .cvS d x, e, h, K => ∃ s, StrAt h (ev e x) s ∧ K (e.set d (.string s)) h
  | .bl0 d, e, h, K => ∀ b, h.G b = none → K (e.set d (.slice (some ⟨b, 0, none⟩) 0 0)) h
  | .st x n y, e, h, K => ∃ L', StL h.L (ev e x) (cellsL (ev e y)) L' ∧ ((cellsL (ev e y)).length = n ∧ (cellsL (ev e y)).all (·.oneCell') = true) ∧ K e { h with L := L' }
  | .bls d et n sz z ps, e, h, K =>
    match fillL (ps.map fun p => (p.1, p.2.1, cellsL (ev e p.2.2))) z with
    | some cs => cs.length = n * sz ∧ ∀ b, h.G b = none → K (e.set d (.slice (some ⟨b, 0, none⟩) n n)) { h with L := .row (.slice (some ⟨b, 0, none⟩) n n) et sz n cs :: h.L }
    | none => False
  | .app d x y et sz nb, e, h, K => ∃ L1 n xs L2 m ys, RowAt h.L (ev e x) et sz L1 n xs L2 ∧ SrcH h (ev e y) sz m ys ∧ ((n + m) * nb ≤ 140737488355328 ∧ n + m ≤ maxLen) ∧
      ∀ A c, K (e.set d (.slice A (n + m) c)) { h with L := L1 ++ .row (.slice A (n + m) c) et sz (n + m) (xs ++ ys) :: L2 }
  | .call d f xs, e, h, K => CallsH P f (xs.map (ev e)).toArray h fun v h' => K (e.set d v) h'
  | .cav d f xs, e, h, K => CavH P (ev e f) (xs.map (ev e)).toArray h fun v h' => K (e.set d v) h'
  | s, e, h, K =>
    match pureV s e with
    | some v => K (e.set (dstS s) v) h
    | none => False
/-- The same where nothing may change, and the value be one. -/
def opQ (P : Program) : SOp → Env → H → (Env → Prop) → Prop
  | .nop, e, _, K => K e
  | .ixA d x i sz, e, _, K =>
    match ev e x, ev e i with
    | .slice A n _, .int _ j => (0 ≤ j ∧ j < n) ∧ ∃ a, A = some a ∧ K (e.set d (.pointer (some (a.add (j.toNat * sz)))))
    | _, _ => False
  | .sl d x lo hi mx sz, e, _, K =>
    match ev e x with
    | .slice A n c =>
      match bnd e 0 lo, bnd e n hi, bnd e c mx with
      | some l, some u, some m => (0 ≤ l ∧ l ≤ u ∧ u ≤ m ∧ m ≤ c) ∧ K (e.set d (.slice (if m.toNat = l.toNat then A else A.map (·.add (l.toNat * sz))) (u.toNat - l.toNat) (m.toNat - l.toNat)))
      | _, _, _ => False
    | _ => False
  | .ldR d s o n, e, h, K =>
    match getR s h.L with
    | some cs => match ldC cs o n with
      | some v => K (e.set d v)
      | none => False
    | none => False
  | .ld d x n, e, h, K => ∃ v, LdN h (ev e x) n v ∧ K (e.set d v)
  | .cvS d x, e, h, K => ∃ s, StrAt h (ev e x) s ∧ K (e.set d (.string s))
  | .call d f xs, e, h, K => ∃ v, CallsH P f (xs.map (ev e)).toArray h (fun v' h' => v' = v ∧ h' = h) ∧ K (e.set d v)
  | .cav d f xs, e, h, K => ∃ g cap v, ev e f = .func (.func g) #[] cap ∧ CallsH P g ((xs.map (ev e)).toArray ++ cap) h (fun v' h' => v' = v ∧ h' = h) ∧ K (e.set d v)
  | s, e, _, K =>
    match pureV s e with
    | some v => K (e.set (dstS s) v)
    | none => False
end Go.Kx

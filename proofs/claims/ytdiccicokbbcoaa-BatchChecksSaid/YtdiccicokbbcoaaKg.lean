/- The sixteenth text of the small logic: regions, operation by operation, as rules that rewrite. No condition. -/
import Derived.Test.YtdiccicokbbcoaaKf
set_option linter.unusedSimpArgs false
set_option linter.unusedVariables false
namespace Go.Kx
open Go Go.RowKit

def und : Env := fun _ => undef
theorem env_0 : env0 #[] = und := by funext i; simp [env0, und]
theorem env_1 (a : Value) : env0 #[a] = und.set 0 a := by funext i; match i with | 0 => rfl | n + 1 => simp [env0, Env.set, und]
theorem env_2 (a b : Value) : env0 #[a, b] = (und.set 0 a).set 1 b := by funext i; match i with | 0 => rfl | 1 => rfl | n + 2 => simp [env0, Env.set, und]
theorem env_3 (a b c : Value) : env0 #[a, b, c] = ((und.set 0 a).set 1 b).set 2 c := by funext i; match i with | 0 => rfl | 1 => rfl | 2 => rfl | n + 3 => simp [env0, Env.set, und]
theorem env_4 (a b c d : Value) : env0 #[a, b, c, d] = (((und.set 0 a).set 1 b).set 2 c).set 3 d := by funext i; match i with | 0 => rfl | 1 => rfl | 2 => rfl | 3 => rfl | n + 4 => simp [env0, Env.set, und]
theorem env_5 (a b c d f : Value) : env0 #[a, b, c, d, f] = ((((und.set 0 a).set 1 b).set 2 c).set 3 d).set 4 f := by funext i; match i with | 0 => rfl | 1 => rfl | 2 => rfl | 3 => rfl | 4 => rfl | n + 5 => simp [env0, Env.set, und]
theorem env_6 (a b c d f g : Value) : env0 #[a, b, c, d, f, g] = (((((und.set 0 a).set 1 b).set 2 c).set 3 d).set 4 f).set 5 g := by funext i; match i with | 0 => rfl | 1 => rfl | 2 => rfl | 3 => rfl | 4 => rfl | 5 => rfl | n + 6 => simp [env0, Env.set, und]
theorem set_s (e : Env) (d : Nat) (v : Value) : e.set d v d = v := by simp [Env.set]
theorem set_n (e : Env) (d i : Nat) (v : Value) (h : (i == d) = false) : e.set d v i = e i := by
  have : ¬ i = d := by simpa using h
  simp [Env.set, this]
theorem ev_t (e : Env) (n : Nat) : ev e (.t n) = e n := rfl
theorem ev_i (e : Env) (n : Int) : ev e (.i n) = .int .i64 n := rfl
theorem ev_b (e : Env) (x : Bool) : ev e (.b x) = .bool x := rfl
theorem ev_v (e : Env) (x : Value) : ev e (.v x) = x := rfl

/-! What stands behind, as data. -/
def kR (P : Program) (l : List SI) (d : Nat) (e : Env) (K : Env → H → Prop) (v : Value) (h : H) : Prop := regionH P l (e.set d v) h K
def doV (P : Program) (v : Option Value) (d : Nat) (l : List SI) (e : Env) (h : H) (K : Env → H → Prop) : Prop :=
  match v with
  | some v => regionH P l (e.set d v) h K
  | none => False
def doC (P : Program) (v : Option (List Value)) (l : List SI) (e : Env) (h : H) (K : Env → H → Prop) : Prop :=
  match v with
  | some _ => regionH P l e h K
  | none => False
def doL (P : Program) (v : Option (List Value)) (o : Nat) (n : Option Nat) (d : Nat) (l : List SI) (e : Env) (h : H) (K : Env → H → Prop) : Prop :=
  match v with
  | some cs => doV P (ldC cs o n) d l e h K
  | none => False
def doS (P : Program) (v : Option (List Value)) (xs : List Value) (s o n : Nat) (l : List SI) (e : Env) (h : H) (K : Env → H → Prop) : Prop :=
  match v with
  | some cs => (xs.length = n ∧ o + n ≤ cs.length ∧ xs.all (·.oneCell') = true) ∧ regionH P l e { h with L := setR s (splice cs o xs) h.L } K
  | none => False
def ixX (P : Program) (x i : Value) (sz d : Nat) (l : List SI) (e : Env) (h : H) (K : Env → H → Prop) : Prop :=
  match x, i with
  | .slice A n _, .int _ j => (0 ≤ j ∧ j < n) ∧ ∃ a, A = some a ∧ kR P l d e K (.pointer (some (a.add (j.toNat * sz)))) h
  | _, _ => False
def slX (P : Program) (x : Value) (lo hi mx : Option O) (sz d : Nat) (l : List SI) (e : Env) (h : H) (K : Env → H → Prop) : Prop :=
  match x with
  | .slice A n c =>
    match bnd e 0 lo, bnd e n hi, bnd e c mx with
    | some lw, some u, some m => (0 ≤ lw ∧ lw ≤ u ∧ u ≤ m ∧ m ≤ c) ∧ kR P l d e K (.slice (if m.toNat = lw.toNat then A else A.map (·.add (lw.toNat * sz))) (u.toNat - lw.toNat) (m.toNat - lw.toNat)) h
    | _, _, _ => False
  | _ => False
def ldX (P : Program) (x : Value) (n : Option Nat) (d : Nat) (l : List SI) (e : Env) (h : H) (K : Env → H → Prop) : Prop := ∃ v, LdN h x n v ∧ kR P l d e K v h
def stX (P : Program) (x : Value) (xs : List Value) (n : Nat) (l : List SI) (e : Env) (h : H) (K : Env → H → Prop) : Prop :=
  ∃ L', StL h.L x xs L' ∧ (xs.length = n ∧ xs.all (·.oneCell') = true) ∧ regionH P l e { h with L := L' } K
def apX (P : Program) (x y : Value) (et : TypeId) (sz nb d : Nat) (l : List SI) (e : Env) (h : H) (K : Env → H → Prop) : Prop :=
  ∃ L1 n xs L2 m ys, RowAt h.L x et sz L1 n xs L2 ∧ SrcH h y sz m ys ∧ ((n + m) * nb ≤ 140737488355328 ∧ n + m ≤ maxLen) ∧
      ∀ A c, kR P l d e K (.slice A (n + m) c) { h with L := L1 ++ .row (.slice A (n + m) c) et sz (n + m) (xs ++ ys) :: L2 }
def alX (P : Program) (cs : List Value) (d : Nat) (l : List SI) (e : Env) (h : H) (K : Env → H → Prop) : Prop := ∀ b, h.G b = none → kR P l d e K (.pointer (some ⟨b, 0, none⟩)) { h with L := .blk b cs :: h.L }
def blX (P : Program) (cs : Option (List Value)) (et n sz d : Nat) (l : List SI) (e : Env) (h : H) (K : Env → H → Prop) : Prop :=
  match cs with
  | some cs => cs.length = n * sz ∧ ∀ b, h.G b = none → kR P l d e K (.slice (some ⟨b, 0, none⟩) n n) { h with L := .row (.slice (some ⟨b, 0, none⟩) n n) et sz n cs :: h.L }
  | none => False
def gdY (P : Program) (v : Value) (b : Bool) (s : SOp) (c : Option Nat) (k d : Nat) (l : List SI) (e : Env) (h : H) (K : Env → H → Prop) : Prop :=
  match v with
  | .bool t => if t = b then regionH P (⟨none, s, c, 0⟩ :: l) (e.set d (.bool b)) h K else regionH P l ((e.set d (.bool !b)).set k undef) h K
  | _ => regionH P l (e.set k undef) h K
theorem set_self {e : Env} {d : Nat} {v : Value} (h : e d = v) : e.set d v = e := by
  funext i
  simp only [Env.set]
  split
  · rename_i hi; rw [hi, h]
  · rfl

section rules
variable {P : Program} {e : Env} {h : H} {K : Env → H → Prop} {l : List SI} {k d : Nat} {c : Option Nat} {s : SOp}
theorem x_nil : regionH P [] e h K = K e h := rfl
theorem x_p (hp : isPure s = true) : regionH P (⟨none, s, none, k⟩ :: l) e h K = doV P (pureV s e) (dstS s) l e h K := by
  cases s <;> first | (cases hp; done) | rfl
theorem x_mv (x : O) : regionH P (⟨none, .mv d x, none, k⟩ :: l) e h K = doV P (some (ev e x)) d l e h K := rfl
theorem x_pick (z x y : O) : regionH P (⟨none, .pick d z x y, none, k⟩ :: l) e h K = doV P (pickO (ev e z) (ev e x) (ev e y)) d l e h K := rfl
theorem x_bin (op : BinOp) (x y : O) : regionH P (⟨none, .bin d op x y, none, k⟩ :: l) e h K = doV P (binV op (ev e x) (ev e y)) d l e h K := rfl
theorem x_eqb (ne : Bool) (x y : O) : regionH P (⟨none, .eqb d ne x y, none, k⟩ :: l) e h K = doV P (eqbV ne (ev e x) (ev e y)) d l e h K := rfl
theorem x_eqf (ne : Bool) (ks : List Nat) (x y : O) : regionH P (⟨none, .eqf d ne ks x y, none, k⟩ :: l) e h K = doV P (eqfV ne ks (ev e x) (ev e y)) d l e h K := rfl
theorem x_un (op : UnOp) (x : O) : regionH P (⟨none, .un d op x, none, k⟩ :: l) e h K = doV P (unV op (ev e x)) d l e h K := rfl
theorem x_isn (ne : Bool) (x : O) : regionH P (⟨none, .isn d ne x, none, k⟩ :: l) e h K = doV P (isnV ne (ev e x)) d l e h K := rfl
theorem x_cvI (ik : IntKind) (x : O) : regionH P (⟨none, .cvI d ik x, none, k⟩ :: l) e h K = doV P (Kx.cvI ik (ev e x)) d l e h K := rfl
theorem x_ext (x : O) (i : Nat) : regionH P (⟨none, .ext d x i, none, k⟩ :: l) e h K = doV P (extV i (ev e x)) d l e h K := rfl
theorem x_fld (x : O) (o : Nat) (n : Option Nat) : regionH P (⟨none, .fld d x o n, none, k⟩ :: l) e h K = doV P (fldV o n (ev e x)) d l e h K := rfl
theorem x_bld (z : List Value) (ps : List (Nat × Nat × O)) : regionH P (⟨none, .bld d z ps, none, k⟩ :: l) e h K = doV P ((fillL (ps.map fun p => (p.1, p.2.1, cellsL (ev e p.2.2))) z).map fun cs => .agg cs.toArray) d l e h K := rfl
theorem x_mkf (f : Fn) (cs : List O) : regionH P (⟨none, .mkf d f cs, none, k⟩ :: l) e h K = doV P (some (.func f #[] (cs.map (ev e)).toArray)) d l e h K := rfl
theorem x_len (b : Bool) (x : O) : regionH P (⟨none, .len d b x, none, k⟩ :: l) e h K = doV P (lenV b (ev e x)) d l e h K := rfl
theorem x_mm (mx : Bool) (x y : O) : regionH P (⟨none, .mm d mx x y, none, k⟩ :: l) e h K = doV P (mmV mx (ev e x) (ev e y)) d l e h K := rfl
theorem x_nck (x : O) : regionH P (⟨none, .nck d x, none, k⟩ :: l) e h K = doV P (nckV (ev e x)) d l e h K := rfl
theorem x_flA (x : O) (o : Nat) : regionH P (⟨none, .flA d x o, none, k⟩ :: l) e h K = doV P (flaV o (ev e x)) d l e h K := rfl
theorem doV_s (v : Value) : doV P (some v) d l e h K = regionH P l (e.set d v) h K := rfl
theorem x_nop {x : Nat} : regionH P (⟨none, .nop, some x, k⟩ :: l) e h K = doC P (getR x h.L) l e h K := by
  simp only [regionH, opC, doC, opS]
  cases getR x h.L <;> rfl
theorem x_nop0 : regionH P (⟨none, .nop, none, k⟩ :: l) e h K = regionH P l e h K := rfl
theorem doC_s (cs : List Value) : doC P (some cs) l e h K = regionH P l e h K := rfl
theorem x_ixP (x i : O) (n sz : Nat) : regionH P (⟨none, .ixP d x i n sz, none, k⟩ :: l) e h K = doV P (ixPV n sz (ev e x) (ev e i)) d l e h K := rfl
theorem x_ixV (x i : O) (n sz : Nat) (m : Option Nat) : regionH P (⟨none, .ixV d x i n sz m, none, k⟩ :: l) e h K = doV P (ixVV n sz m (ev e x) (ev e i)) d l e h K := rfl
theorem doV_ixP {n sz : Nat} {a : Addr} {kk : IntKind} {j : Int} : doV P (ixPV n sz (.pointer (some a)) (.int kk j)) d l e h K = ((0 ≤ j ∧ j < n) ∧ doV P (some (.pointer (some (a.add (j.toNat * sz))))) d l e h K) := by
  by_cases hj : 0 ≤ j ∧ j < n
  · simp only [ixPV, hj, and_self, true_and, if_true]
  · simp only [ixPV, if_neg hj]
    simp [doV]
    omega
theorem doV_ixV {n sz : Nat} {m : Option Nat} {cs : Array Value} {kk : IntKind} {j : Int} : doV P (ixVV n sz m (.agg cs) (.int kk j)) d l e h K = ((0 ≤ j ∧ j < n) ∧ doV P (fldV (j.toNat * sz) m (.agg cs)) d l e h K) := by
  by_cases hj : 0 ≤ j ∧ j < n
  · simp only [ixVV, hj, and_self, true_and, if_true]
  · simp only [ixVV, if_neg hj]
    simp [doV]
    omega
theorem x_ldR {x o : Nat} {n : Option Nat} : regionH P (⟨none, .ldR d x o n, none, k⟩ :: l) e h K = doL P (getR x h.L) o n d l e h K := by
  simp only [regionH, opC, opS, doL]
  cases getR x h.L with
  | none => rfl
  | some cs => cases ldC cs o n <;> rfl
theorem doL_s (cs : List Value) (o : Nat) (n : Option Nat) : doL P (some cs) o n d l e h K = doV P (ldC cs o n) d l e h K := rfl
theorem x_stR {x o n : Nat} {y : O} : regionH P (⟨none, .stR x o n y, none, k⟩ :: l) e h K = doS P (getR x h.L) (cellsL (ev e y)) x o n l e h K := by
  simp only [regionH, opC, opS, doS]
  cases getR x h.L <;> rfl
theorem doS_s (cs xs : List Value) (x o n : Nat) : doS P (some cs) xs x o n l e h K = ((xs.length = n ∧ o + n ≤ cs.length ∧ xs.all (·.oneCell') = true) ∧ regionH P l e { h with L := setR x (splice cs o xs) h.L } K) := rfl
theorem x_alR {x : Nat} {z : List Value} : regionH P (⟨none, .alR x z, none, k⟩ :: l) e h K = regionH P l e { h with L := .reg x z :: rmR x h.L } K := rfl
theorem x_bxR {x : Nat} {y : O} : regionH P (⟨none, .bxR x y, none, k⟩ :: l) e h K = regionH P l e { h with L := .reg x (cellsL (ev e y)) :: rmR x h.L } K := rfl
theorem x_ix {x i : O} {sz : Nat} : regionH P (⟨none, .ixA d x i sz, none, k⟩ :: l) e h K = ixX P (ev e x) (ev e i) sz d l e h K := by
  simp only [regionH, opC, opS, ixX, kR]
  cases ev e x <;> cases ev e i <;> rfl
theorem ixX_s {A : Option Addr} {n cc : Nat} {kk : IntKind} {j : Int} {sz : Nat} : ixX P (.slice A n cc) (.int kk j) sz d l e h K = ((0 ≤ j ∧ j < n) ∧ ∃ a, A = some a ∧ kR P l d e K (.pointer (some (a.add (j.toNat * sz)))) h) := rfl
theorem x_sl {x : O} {lo hi mx : Option O} {sz : Nat} : regionH P (⟨none, .sl d x lo hi mx sz, none, k⟩ :: l) e h K = slX P (ev e x) lo hi mx sz d l e h K := by
  simp only [regionH, opC, opS, slX, kR]
  cases ev e x <;> rfl
def csX (P : Program) (v : Value) (d : Nat) (l : List SI) (e : Env) (h : H) (K : Env → H → Prop) : Prop := ∃ s, StrAt h v s ∧ kR P l d e K (.string s) h
theorem x_cvS {x : O} : regionH P (⟨none, .cvS d x, none, k⟩ :: l) e h K = csX P (ev e x) d l e h K := rfl
theorem x_ld {x : O} {n : Option Nat} : regionH P (⟨none, .ld d x n, none, k⟩ :: l) e h K = ldX P (ev e x) n d l e h K := rfl
theorem x_st {x y : O} {n : Nat} : regionH P (⟨none, .st x n y, none, k⟩ :: l) e h K = stX P (ev e x) (cellsL (ev e y)) n l e h K := rfl
theorem x_app {x y : O} {et sz nb : Nat} : regionH P (⟨none, .app d x y et sz nb, none, k⟩ :: l) e h K = apX P (ev e x) (ev e y) et sz nb d l e h K := rfl
theorem x_al {z : List Value} : regionH P (⟨none, .al d z, none, k⟩ :: l) e h K = alX P z d l e h K := rfl
theorem x_bx {y : O} : regionH P (⟨none, .bx d y, none, k⟩ :: l) e h K = alX P (cellsL (ev e y)) d l e h K := rfl
theorem x_bl0 : regionH P (⟨none, .bl0 d, none, k⟩ :: l) e h K = ∀ b, h.G b = none → kR P l d e K (.slice (some ⟨b, 0, none⟩) 0 0) h := rfl
theorem x_bls {et n sz : Nat} {z : List Value} {ps : List (Nat × Nat × O)} : regionH P (⟨none, .bls d et n sz z ps, none, k⟩ :: l) e h K = blX P (fillL (ps.map fun p => (p.1, p.2.1, cellsL (ev e p.2.2))) z) et n sz d l e h K := by
  simp only [regionH, opC, opS, blX]
  cases fillL (ps.map fun p => (p.1, p.2.1, cellsL (ev e p.2.2))) z <;> rfl
theorem blX_s {cs : List Value} {et n sz : Nat} : blX P (some cs) et n sz d l e h K = (cs.length = n * sz ∧ ∀ b, h.G b = none → kR P l d e K (.slice (some ⟨b, 0, none⟩) n n) { h with L := .row (.slice (some ⟨b, 0, none⟩) n n) et sz n cs :: h.L }) := rfl
theorem x_call {f : Nat} {xs : List O} : regionH P (⟨none, .call d f xs, none, k⟩ :: l) e h K = CallsH P f (xs.map (ev e)).toArray h (kR P l d e K) := rfl
theorem x_cav {f : O} {xs : List O} : regionH P (⟨none, .cav d f xs, none, k⟩ :: l) e h K = CavH P (ev e f) (xs.map (ev e)).toArray h (kR P l d e K) := rfl
theorem x_g {b : Bool} : regionH P (⟨some (d, b), s, c, k⟩ :: l) e h K = gdY P (e d) b s c k d l e h K := by
  simp only [regionH, gdY]
  cases hv : e d <;> simp only [gOk, Bool.false_eq_true, if_false]
  rename_i t
  by_cases ht : t = b
  · subst ht
    simp only [beq_self_eq_true, if_true]
    rw [set_self hv]
  · have : (t == b) = false := by simpa using ht
    have h2 : (!b) = t := by cases t <;> cases b <;> simp_all
    simp only [this, Bool.false_eq_true, if_false, ht]
    rw [h2, set_self hv]
theorem gdY_tt : gdY P (.bool true) true s c k d l e h K = regionH P (⟨none, s, c, 0⟩ :: l) (e.set d (.bool true)) h K := by simp [gdY]
theorem gdY_ff : gdY P (.bool false) false s c k d l e h K = regionH P (⟨none, s, c, 0⟩ :: l) (e.set d (.bool false)) h K := by simp [gdY]
theorem gdY_tf : gdY P (.bool true) false s c k d l e h K = regionH P l ((e.set d (.bool true)).set k undef) h K := by simp [gdY]
theorem gdY_ft : gdY P (.bool false) true s c k d l e h K = regionH P l ((e.set d (.bool false)).set k undef) h K := by simp [gdY]
theorem gd {t b : Bool} (h1 : t = true → gdY P (.bool true) b s c k d l e h K) (h2 : t = false → gdY P (.bool false) b s c k d l e h K) : gdY P (.bool t) b s c k d l e h K := by
  cases t
  · exact h2 rfl
  · exact h1 rfl
theorem kR_e (v : Value) : kR P l d e K v h = regionH P l (e.set d v) h K := rfl
end rules

/-! The same for a region whose order is open. -/
def kQ (P : Program) (l : List SI) (d : Nat) (e : Env) (h : H) (K : Env → Prop) (v : Value) : Prop := regionQ P l (e.set d v) h K
def qoV (P : Program) (v : Option Value) (d : Nat) (l : List SI) (e : Env) (h : H) (K : Env → Prop) : Prop :=
  match v with
  | some v => regionQ P l (e.set d v) h K
  | none => False
def qoC (P : Program) (v : Option (List Value)) (l : List SI) (e : Env) (h : H) (K : Env → Prop) : Prop :=
  match v with
  | some _ => regionQ P l e h K
  | none => False
def qoL (P : Program) (v : Option (List Value)) (o : Nat) (n : Option Nat) (d : Nat) (l : List SI) (e : Env) (h : H) (K : Env → Prop) : Prop :=
  match v with
  | some cs => qoV P (ldC cs o n) d l e h K
  | none => False
def iqX (P : Program) (x i : Value) (sz d : Nat) (l : List SI) (e : Env) (h : H) (K : Env → Prop) : Prop :=
  match x, i with
  | .slice A n _, .int _ j => (0 ≤ j ∧ j < n) ∧ ∃ a, A = some a ∧ kQ P l d e h K (.pointer (some (a.add (j.toNat * sz))))
  | _, _ => False
def sqX (P : Program) (x : Value) (lo hi mx : Option O) (sz d : Nat) (l : List SI) (e : Env) (h : H) (K : Env → Prop) : Prop :=
  match x with
  | .slice A n c =>
    match bnd e 0 lo, bnd e n hi, bnd e c mx with
    | some lw, some u, some m => (0 ≤ lw ∧ lw ≤ u ∧ u ≤ m ∧ m ≤ c) ∧ kQ P l d e h K (.slice (if m.toNat = lw.toNat then A else A.map (·.add (lw.toNat * sz))) (u.toNat - lw.toNat) (m.toNat - lw.toNat))
    | _, _, _ => False
  | _ => False
def lqX (P : Program) (x : Value) (n : Option Nat) (d : Nat) (l : List SI) (e : Env) (h : H) (K : Env → Prop) : Prop := ∃ v, LdN h x n v ∧ kQ P l d e h K v
def csqX (P : Program) (v : Value) (d : Nat) (l : List SI) (e : Env) (h : H) (K : Env → Prop) : Prop := ∃ s, StrAt h v s ∧ kQ P l d e h K (.string s)
def cqX (P : Program) (f : FuncId) (args : Array Value) (d : Nat) (l : List SI) (e : Env) (h : H) (K : Env → Prop) : Prop := ∃ v, CallsH P f args h (fun v' h' => v' = v ∧ h' = h) ∧ kQ P l d e h K v
def gqY (P : Program) (v : Value) (b : Bool) (s : SOp) (c : Option Nat) (k d : Nat) (l : List SI) (e : Env) (h : H) (K : Env → Prop) : Prop :=
  match v with
  | .bool t => if t = b then regionQ P (⟨none, s, c, 0⟩ :: l) (e.set d (.bool b)) h K else regionQ P l ((e.set d (.bool !b)).set k undef) h K
  | _ => regionQ P l (e.set k undef) h K
section rulesQ
variable {P : Program} {e : Env} {h : H} {K : Env → Prop} {l : List SI} {k d : Nat} {c : Option Nat} {s : SOp}
theorem y_nil : regionQ P [] e h K = K e := rfl
theorem y_p (hp : isPure s = true) : regionQ P (⟨none, s, none, k⟩ :: l) e h K = qoV P (pureV s e) (dstS s) l e h K := by
  cases s <;> first | (cases hp; done) | rfl
theorem y_mv (x : O) : regionQ P (⟨none, .mv d x, none, k⟩ :: l) e h K = qoV P (some (ev e x)) d l e h K := rfl
theorem y_pick (z x y : O) : regionQ P (⟨none, .pick d z x y, none, k⟩ :: l) e h K = qoV P (pickO (ev e z) (ev e x) (ev e y)) d l e h K := rfl
theorem y_bin (op : BinOp) (x y : O) : regionQ P (⟨none, .bin d op x y, none, k⟩ :: l) e h K = qoV P (binV op (ev e x) (ev e y)) d l e h K := rfl
theorem y_eqb (ne : Bool) (x y : O) : regionQ P (⟨none, .eqb d ne x y, none, k⟩ :: l) e h K = qoV P (eqbV ne (ev e x) (ev e y)) d l e h K := rfl
theorem y_eqf (ne : Bool) (ks : List Nat) (x y : O) : regionQ P (⟨none, .eqf d ne ks x y, none, k⟩ :: l) e h K = qoV P (eqfV ne ks (ev e x) (ev e y)) d l e h K := rfl
theorem y_un (op : UnOp) (x : O) : regionQ P (⟨none, .un d op x, none, k⟩ :: l) e h K = qoV P (unV op (ev e x)) d l e h K := rfl
theorem y_isn (ne : Bool) (x : O) : regionQ P (⟨none, .isn d ne x, none, k⟩ :: l) e h K = qoV P (isnV ne (ev e x)) d l e h K := rfl
theorem y_cvI (ik : IntKind) (x : O) : regionQ P (⟨none, .cvI d ik x, none, k⟩ :: l) e h K = qoV P (Kx.cvI ik (ev e x)) d l e h K := rfl
theorem y_ext (x : O) (i : Nat) : regionQ P (⟨none, .ext d x i, none, k⟩ :: l) e h K = qoV P (extV i (ev e x)) d l e h K := rfl
theorem y_fld (x : O) (o : Nat) (n : Option Nat) : regionQ P (⟨none, .fld d x o n, none, k⟩ :: l) e h K = qoV P (fldV o n (ev e x)) d l e h K := rfl
theorem y_bld (z : List Value) (ps : List (Nat × Nat × O)) : regionQ P (⟨none, .bld d z ps, none, k⟩ :: l) e h K = qoV P ((fillL (ps.map fun p => (p.1, p.2.1, cellsL (ev e p.2.2))) z).map fun cs => .agg cs.toArray) d l e h K := rfl
theorem y_mkf (f : Fn) (cs : List O) : regionQ P (⟨none, .mkf d f cs, none, k⟩ :: l) e h K = qoV P (some (.func f #[] (cs.map (ev e)).toArray)) d l e h K := rfl
theorem y_len (b : Bool) (x : O) : regionQ P (⟨none, .len d b x, none, k⟩ :: l) e h K = qoV P (lenV b (ev e x)) d l e h K := rfl
theorem y_mm (mx : Bool) (x y : O) : regionQ P (⟨none, .mm d mx x y, none, k⟩ :: l) e h K = qoV P (mmV mx (ev e x) (ev e y)) d l e h K := rfl
theorem y_nck (x : O) : regionQ P (⟨none, .nck d x, none, k⟩ :: l) e h K = qoV P (nckV (ev e x)) d l e h K := rfl
theorem y_flA (x : O) (o : Nat) : regionQ P (⟨none, .flA d x o, none, k⟩ :: l) e h K = qoV P (flaV o (ev e x)) d l e h K := rfl
theorem qoV_s (v : Value) : qoV P (some v) d l e h K = regionQ P l (e.set d v) h K := rfl
theorem y_nop {x : Nat} : regionQ P (⟨none, .nop, some x, k⟩ :: l) e h K = qoC P (getR x h.L) l e h K := by
  simp only [regionQ, opQC, qoC, opQ]
  cases getR x h.L <;> rfl
theorem y_nop0 : regionQ P (⟨none, .nop, none, k⟩ :: l) e h K = regionQ P l e h K := rfl
theorem qoC_s (cs : List Value) : qoC P (some cs) l e h K = regionQ P l e h K := rfl
theorem y_ixP (x i : O) (n sz : Nat) : regionQ P (⟨none, .ixP d x i n sz, none, k⟩ :: l) e h K = qoV P (ixPV n sz (ev e x) (ev e i)) d l e h K := rfl
theorem y_ixV (x i : O) (n sz : Nat) (m : Option Nat) : regionQ P (⟨none, .ixV d x i n sz m, none, k⟩ :: l) e h K = qoV P (ixVV n sz m (ev e x) (ev e i)) d l e h K := rfl
theorem qoV_ixP {n sz : Nat} {a : Addr} {kk : IntKind} {j : Int} : qoV P (ixPV n sz (.pointer (some a)) (.int kk j)) d l e h K = ((0 ≤ j ∧ j < n) ∧ qoV P (some (.pointer (some (a.add (j.toNat * sz))))) d l e h K) := by
  by_cases hj : 0 ≤ j ∧ j < n
  · simp only [ixPV, hj, and_self, true_and, if_true]
  · simp only [ixPV, if_neg hj]
    simp [qoV]
    omega
theorem qoV_ixV {n sz : Nat} {m : Option Nat} {cs : Array Value} {kk : IntKind} {j : Int} : qoV P (ixVV n sz m (.agg cs) (.int kk j)) d l e h K = ((0 ≤ j ∧ j < n) ∧ qoV P (fldV (j.toNat * sz) m (.agg cs)) d l e h K) := by
  by_cases hj : 0 ≤ j ∧ j < n
  · simp only [ixVV, hj, and_self, true_and, if_true]
  · simp only [ixVV, if_neg hj]
    simp [qoV]
    omega
theorem y_ldR {x o : Nat} {n : Option Nat} : regionQ P (⟨none, .ldR d x o n, none, k⟩ :: l) e h K = qoL P (getR x h.L) o n d l e h K := by
  simp only [regionQ, opQC, opQ, qoL]
  cases getR x h.L with
  | none => rfl
  | some cs => cases ldC cs o n <;> rfl
theorem qoL_s (cs : List Value) (o : Nat) (n : Option Nat) : qoL P (some cs) o n d l e h K = qoV P (ldC cs o n) d l e h K := rfl
theorem y_ix {x i : O} {sz : Nat} : regionQ P (⟨none, .ixA d x i sz, none, k⟩ :: l) e h K = iqX P (ev e x) (ev e i) sz d l e h K := by
  simp only [regionQ, opQC, opQ, iqX, kQ]
  cases ev e x <;> cases ev e i <;> rfl
theorem iqX_s {A : Option Addr} {n cc : Nat} {kk : IntKind} {j : Int} {sz : Nat} : iqX P (.slice A n cc) (.int kk j) sz d l e h K = ((0 ≤ j ∧ j < n) ∧ ∃ a, A = some a ∧ kQ P l d e h K (.pointer (some (a.add (j.toNat * sz))))) := rfl
theorem y_sl {x : O} {lo hi mx : Option O} {sz : Nat} : regionQ P (⟨none, .sl d x lo hi mx sz, none, k⟩ :: l) e h K = sqX P (ev e x) lo hi mx sz d l e h K := by
  simp only [regionQ, opQC, opQ, sqX, kQ]
  cases ev e x <;> rfl
theorem y_cvS {x : O} : regionQ P (⟨none, .cvS d x, none, k⟩ :: l) e h K = csqX P (ev e x) d l e h K := rfl
theorem y_ld {x : O} {n : Option Nat} : regionQ P (⟨none, .ld d x n, none, k⟩ :: l) e h K = lqX P (ev e x) n d l e h K := rfl
theorem y_call {f : Nat} {xs : List O} : regionQ P (⟨none, .call d f xs, none, k⟩ :: l) e h K = cqX P f (xs.map (ev e)).toArray d l e h K := rfl
theorem y_g {b : Bool} : regionQ P (⟨some (d, b), s, c, k⟩ :: l) e h K = gqY P (e d) b s c k d l e h K := by
  simp only [regionQ, gqY]
  cases hv : e d <;> simp only [gOk, Bool.false_eq_true, if_false]
  rename_i t
  by_cases ht : t = b
  · subst ht
    simp only [beq_self_eq_true, if_true]
    rw [set_self hv]
  · have : (t == b) = false := by simpa using ht
    have h2 : (!b) = t := by cases t <;> cases b <;> simp_all
    simp only [this, Bool.false_eq_true, if_false, ht]
    rw [h2, set_self hv]
theorem gqY_tt : gqY P (.bool true) true s c k d l e h K = regionQ P (⟨none, s, c, 0⟩ :: l) (e.set d (.bool true)) h K := by simp [gqY]
theorem gqY_ff : gqY P (.bool false) false s c k d l e h K = regionQ P (⟨none, s, c, 0⟩ :: l) (e.set d (.bool false)) h K := by simp [gqY]
theorem gqY_tf : gqY P (.bool true) false s c k d l e h K = regionQ P l ((e.set d (.bool true)).set k undef) h K := by simp [gqY]
theorem gqY_ft : gqY P (.bool false) true s c k d l e h K = regionQ P l ((e.set d (.bool false)).set k undef) h K := by simp [gqY]
theorem gq {t b : Bool} (h1 : t = true → gqY P (.bool true) b s c k d l e h K) (h2 : t = false → gqY P (.bool false) b s c k d l e h K) : gqY P (.bool t) b s c k d l e h K := by
  cases t
  · exact h2 rfl
  · exact h1 rfl
theorem kQ_e (v : Value) : kQ P l d e h K v = regionQ P l (e.set d v) h K := rfl
end rulesQ
theorem binV_add (a b : Int) : binV .add (.int .i64 a) (.int .i64 b) = some (.int .i64 (IntKind.i64.wrap (a + b))) := rfl
theorem binV_sub (a b : Int) : binV .sub (.int .i64 a) (.int .i64 b) = some (.int .i64 (IntKind.i64.wrap (a - b))) := rfl
theorem binV_mul (a b : Int) : binV .mul (.int .i64 a) (.int .i64 b) = some (.int .i64 (IntKind.i64.wrap (a * b))) := rfl
theorem binV_eql (k : IntKind) (a b : Int) : binV .eql (.int k a) (.int k b) = some (.bool (decide (a = b))) := by simp [binV]
theorem binV_neq (k : IntKind) (a b : Int) : binV .neq (.int k a) (.int k b) = some (.bool (decide (a ≠ b))) := by simp [binV]
theorem binV_lss (k : IntKind) (a b : Int) : binV .lss (.int k a) (.int k b) = some (.bool (decide (a < b))) := by simp [binV]
theorem binV_leq (k : IntKind) (a b : Int) : binV .leq (.int k a) (.int k b) = some (.bool (decide (a ≤ b))) := by simp [binV]
theorem binV_gtr (k : IntKind) (a b : Int) : binV .gtr (.int k a) (.int k b) = some (.bool (decide (b < a))) := by simp [binV]
theorem binV_geq (k : IntKind) (a b : Int) : binV .geq (.int k a) (.int k b) = some (.bool (decide (b ≤ a))) := by simp [binV]
theorem binV_rem (a b : Int) (hb : (b == 0) = false) : binV .rem (.int .i64 a) (.int .i64 b) = some (.int .i64 (a.tmod b)) := by
  have : ¬ b = 0 := by simpa using hb
  simp [binV, this]
theorem binV_quo (a b : Int) (hb : (b == 0) = false) : binV .quo (.int .i64 a) (.int .i64 b) = some (.int .i64 (IntKind.i64.wrap (a.tdiv b))) := by
  have : ¬ b = 0 := by simpa using hb
  simp [binV, this]
theorem unV_not (b : Bool) : unV .not (.bool b) = some (.bool !b) := rfl
theorem unV_neg (a : Int) : unV .neg (.int .i64 a) = some (.int .i64 (IntKind.i64.wrap (0 - a))) := rfl
theorem pickO_t (x y : Value) : pickO (.bool true) x y = some x := by simp [pickO]
theorem pickO_f (x y : Value) : pickO (.bool false) x y = some y := by simp [pickO]
theorem pickO_b (t p q : Bool) : pickO (.bool t) (.bool p) (.bool q) = some (.bool (if t then p else q)) := by simp [pickO]
theorem cells_i (k : IntKind) (n : Int) : cellsL (.int k n) = [.int k n] := rfl
theorem cells_b (x : Bool) : cellsL (.bool x) = [.bool x] := rfl
theorem cells_s (x : ByteArray) : cellsL (.string x) = [.string x] := rfl
theorem cells_sl (A : Option Addr) (n c : Nat) : cellsL (.slice A n c) = [.slice A n c] := rfl
theorem cells_p (A : Option Addr) : cellsL (.pointer A) = [.pointer A] := rfl
theorem cells_f (f : Fn) (a b : Array Value) : cellsL (.func f a b) = [.func f a b] := rfl
theorem cells_a (l : List Value) : cellsL (.agg l.toArray) = l := by simp [cellsL, Value.cells]
theorem ldC_n (cs : List Value) (o : Nat) : ldC cs o none = cs[o]? := rfl
theorem ldC_s (cs : List Value) (o n : Nat) (h : o + n ≤ cs.length) : ldC cs o (some n) = some (.agg ((cs.drop o).take n).toArray) := by
  simp only [ldC]; rw [if_pos h]
theorem fldV_n (l : List Value) (o : Nat) : fldV o none (.agg l.toArray) = l[o]? := by simp [fldV]
theorem fldV_s (l : List Value) (o n : Nat) : fldV o (some n) (.agg l.toArray) = some (.agg ((l.drop o).take n).toArray) := by simp [fldV]
theorem extV_s (l : List Value) (i : Nat) : extV i (.tuple l.toArray) = l[i]? := by simp [extV]
theorem spl_0 (cs xs : List Value) : splice cs 0 xs = xs ++ cs.drop xs.length := by simp [splice]
theorem spl_s (c : Value) (cs xs : List Value) (n : Nat) : splice (c :: cs) (n + 1) xs = c :: splice cs n xs := by simp [splice, Nat.add_right_comm n 1 xs.length]
theorem tup_1 (v : Value) : tupV [v] = v := rfl
theorem tup_2 (v u : Value) : tupV [v, u] = .tuple #[v, u] := rfl
theorem tup_3 (v u x : Value) : tupV [v, u, x] = .tuple #[v, u, x] := rfl
theorem tup_0 : tupV [] = .tuple #[] := rfl
/-- The number that an int is, for a loop's measure. -/
def iv : Value → Nat
  | .int _ j => j.toNat
  | _ => 0
theorem iv_i (k : IntKind) (j : Int) : iv (.int k j) = j.toNat := rfl
theorem one_i (k : IntKind) (n : Int) : (Value.int k n).oneCell' = true := rfl
theorem one_b (x : Bool) : (Value.bool x).oneCell' = true := rfl
theorem one_s (x : ByteArray) : (Value.string x).oneCell' = true := rfl
theorem one_sl (A : Option Addr) (n c : Nat) : (Value.slice A n c).oneCell' = true := rfl
theorem one_p (A : Option Addr) : (Value.pointer A).oneCell' = true := rfl
theorem one_f (f : Fn) (a b : Array Value) : (Value.func f a b).oneCell' = true := rfl
theorem allT_nil : ([] : List Value).all (fun x => x.oneCell') = true := rfl
theorem allT_cons (x : Value) (xs : List Value) : (x :: xs).all (fun y => y.oneCell') = (x.oneCell' && xs.all (fun y => y.oneCell')) := rfl
attribute [push_cast] one_i one_b one_s one_sl one_p one_f allT_nil allT_cons Bool.and_self Bool.and_true Bool.true_and
attribute [push_cast] x_ixP x_ixV doV_ixP doV_ixV x_cvS y_ixP y_ixV qoV_ixP qoV_ixV y_cvS tup_0 tup_1 tup_2 tup_3 iv_i env_0 env_1 env_2 env_3 env_4 env_5 env_6 set_s set_n ev_t ev_i ev_b ev_v x_nil x_mv x_pick x_bin x_eqb x_eqf x_un x_isn x_cvI x_ext x_fld x_bld x_mkf x_len x_mm x_nck x_flA doV_s x_nop x_nop0 doC_s x_ldR doL_s x_stR doS_s x_alR x_bxR x_ix ixX_s x_sl x_ld x_st x_app x_al x_bx x_bl0 x_bls blX_s x_call x_cav x_g gdY_tt gdY_ff gdY_tf gdY_ft
  y_nil y_mv y_pick y_bin y_eqb y_eqf y_un y_isn y_cvI y_ext y_fld y_bld y_mkf y_len y_mm y_nck y_flA qoV_s y_nop y_nop0 qoC_s y_ldR qoL_s y_ix iqX_s y_sl y_ld y_call y_g gqY_tt gqY_ff gqY_tf gqY_ft
  binV_add binV_sub binV_mul binV_eql binV_neq binV_lss binV_leq binV_gtr binV_geq binV_rem binV_quo unV_not unV_neg pickO_t pickO_f cells_i cells_b cells_s cells_sl cells_p cells_f cells_a ldC_n ldC_s fldV_n fldV_s extV_s spl_0 spl_s lenV nckV flaV isnV eqbV eqfV eqC cvI getR setR rmR
  List.map_cons List.map_nil List.length_cons List.length_nil List.drop_succ_cons List.drop_zero List.take_succ_cons List.take_zero List.nil_append List.cons_append List.getElem?_cons_zero List.getElem?_cons_succ
end Go.Kx

/- The seventeenth text of the small logic: what is still to do, as a list. No condition. -/
import Derived.Test.YtdiccicokbbcoaaKg
set_option linter.unusedSimpArgs false
set_option linter.unusedVariables false
namespace Go.Kx
open Go Go.RowKit

/-- What is still to do: a statement, the end of a block, or a place where something has to hold. -/
inductive Td where
  | s (x : SC)
  | b (id : Nat)
  | l (I : Env → H → Prop)
  | n

def kS (r : Option Nat) (P : Program) (N : Nat) (rs vs : List Nat) (Q : Exit → Env → H → Prop) : List Td → Exit → Env → H → Prop
  | [] => Q
  | .s x :: fr => thenH (wK r P N rs vs x (kS r P N rs vs Q fr)) (kS r P N rs vs Q fr)
  | .b id :: fr => blkH id (kS r P N rs vs Q fr)
  | .l I :: fr => thenH I (kS r P N rs vs Q fr)
  | .n :: fr => noGo (kS r P N rs vs Q fr)
def go (r : Option Nat) (P : Program) (N : Nat) (rs vs : List Nat) (Q : Exit → Env → H → Prop) (fr : List Td) (e : Env) (h : H) : Prop := kS r P N rs vs Q fr .normal e h

/-- An environment that is open between two numbers. -/
def mix (lo hi : Nat) (e b : Env) : Env := fun i => if i = 99999 ∨ (lo ≤ i ∧ i < hi) then b i else e i
theorem mix_self (lo hi : Nat) (e : Env) : mix lo hi e e = e := by
  funext i; simp [mix]
theorem mix_u (lo hi : Nat) (e b : Env) (v : Value) : mix lo hi (e.set 99999 v) b = mix lo hi e b := by
  funext i
  simp only [mix, Env.set]
  split
  · rfl
  · rename_i hn
    have : ¬ i = 99999 := fun h => hn (.inl h)
    simp [this]
theorem mix_in (lo hi i : Nat) (e b : Env) (v : Value) (h1 : lo ≤ i) (h2 : i < hi) : mix lo hi (e.set i v) b = mix lo hi e b := by
  funext j
  simp only [mix, Env.set]
  split
  · rfl
  · rename_i hn
    have : ¬ j = i := fun h => hn (.inr ⟨by omega, by omega⟩)
    simp [this]
theorem mix_out (lo hi i : Nat) (e b : Env) (v : Value) (h1 : (i == 99999) = false) (h2 : i < lo) : mix lo hi (e.set i v) b = (mix lo hi e b).set i v := by
  funext j
  have h1' : ¬ i = 99999 := by simpa using h1
  simp only [mix, Env.set]
  by_cases hj : j = i
  · subst hj; simp [h1', h2]; omega
  · simp [hj]
theorem mix_hi (lo hi i : Nat) (e b : Env) (v : Value) (h1 : (i == 99999) = false) (h2 : hi ≤ i) : mix lo hi (e.set i v) b = (mix lo hi e b).set i v := by
  funext j
  have h1' : ¬ i = 99999 := by simpa using h1
  simp only [mix, Env.set]
  by_cases hj : j = i
  · subst hj; simp [h1']; omega
  · simp [hj]
theorem mix_lt (lo hi i : Nat) (e b : Env) (h1 : (i == 99999) = false) (h2 : i < lo) : mix lo hi e b i = e i := by
  have h1' : ¬ i = 99999 := by simpa using h1
  simp only [mix, h1', false_or]
  rw [if_neg (by omega)]
theorem mix_ge (lo hi i : Nat) (e b : Env) (h1 : (i == 99999) = false) (h2 : hi ≤ i) : mix lo hi e b i = e i := by
  have h1' : ¬ i = 99999 := by simpa using h1
  simp only [mix, h1', false_or]
  rw [if_neg (by omega)]
attribute [push_cast] mix_lt mix_ge
/-- An environment of which only some places are known. -/
def keep (e : Env) : List Nat → Env → Env
  | [], b => b
  | i :: is, b => (keep e is b).set i (e i)
theorem keep_self (e : Env) (is : List Nat) : keep e is e = e := by
  induction is with
  | nil => rfl
  | cons i is ih => rw [keep, ih]; exact set_self rfl
theorem keep_nil (e b : Env) : keep e [] b = b := rfl
theorem keep_cons (e b : Env) (i : Nat) (is : List Nat) : keep e (i :: is) b = (keep e is b).set i (e i) := rfl

/-- A choice. -/
def doB (v : Value) (A B : Prop) : Prop :=
  match v with
  | .bool t => (t = true → A) ∧ (t = false → B)
  | _ => False
theorem doB_t (A B : Prop) : doB (.bool true) A B = A := by simp [doB]
theorem doB_f (A B : Prop) : doB (.bool false) A B = B := by simp [doB]
theorem gb {t : Bool} {A B : Prop} (h1 : t = true → A) (h2 : t = false → B) : doB (.bool t) A B := ⟨h1, h2⟩

section rules
variable {r : Option Nat} {P : Program} {N : Nat} {rs vs : List Nat} {Q : Exit → Env → H → Prop} {e : Env} {h : H} {fr : List Td}
theorem kS_ret : kS r P N rs vs Q fr .ret e h = Q .ret e h := by
  induction fr with
  | nil => rfl
  | cons f fr ih => cases f <;> exact ih
theorem go_of {s : SC} (hk : go r P N rs vs Q [.s s] e h) : wK r P N rs vs s Q e h := hk
theorem go_seq {x y : SC} (hk : go r P N rs vs Q (.s x :: .s y :: fr) e h) : go r P N rs vs Q (.s (.seq x y) :: fr) e h :=
  wK_seq fun _ hK => wK_mono (Q := kS r P N rs vs Q (.s y :: fr)) hk fun x e h hq => by cases x <;> first | exact hK e h hq | exact hq
theorem go_r {l : List SI} (lo hi : Nat) (hN : N ≤ 99999) (hk : regionH P l e h fun e h => ∀ b, go r P N rs vs Q fr (mix lo hi e b) h) : go r P N rs vs Q (.s (.reg false l) :: fr) e h :=
  wK_mono (Q := fun x e h => ∀ b, kS r P N rs vs Q fr x (mix lo hi e b) h) (wK_reg hN hk) fun x e h hq => by
    have := hq e
    rw [mix_self] at this
    cases x <;> exact this
theorem go_q {l : List SI} (lo hi : Nat) (hN : N ≤ 99999) (hk : regionQ P l e h fun e => ∀ b, go r P N rs vs Q fr (mix lo hi e b) h) : go r P N rs vs Q (.s (.reg true l) :: fr) e h :=
  wK_mono (Q := fun x e h => ∀ b, kS r P N rs vs Q fr x (mix lo hi e b) h) (wK_regQ hN hk) fun x e h hq => by
    have := hq e
    rw [mix_self] at this
    cases x <;> exact this
theorem go_t {l1 l2 : List SI} (hN : N ≤ 99999) (hk : regionQ P l1 e h fun e => regionH P l2 e h fun e h => go r P N rs vs Q fr e h) : go r P N rs vs Q (.s (.rgT l1 l2) :: fr) e h :=
  wK_mono (Q := kS r P N rs vs Q fr) (wK_rgT hN hk) fun x e h hq => by cases x <;> exact hq
theorem go_x {l : List (Bool × SI)} (L1 : List Item) (hL : L1.Sublist h.L) (hN : N ≤ 99999) (hk : regionX P ⟨h.G, L1, h.D⟩ l e h fun e h => go r P N rs vs Q fr e h) : go r P N rs vs Q (.s (.rgX l) :: fr) e h :=
  wK_mono (Q := kS r P N rs vs Q fr) (wK_rgX hN L1 hL hk) fun x e h hq => by cases x <;> exact hq
theorem go_z {t : RX} (L1 : List Item) (hL : L1.Sublist h.L) (hN : N ≤ 99999) (hk : regionZ P ⟨h.G, L1, h.D⟩ t e h fun e h => go r P N rs vs Q fr e h) : go r P N rs vs Q (.s (.rgZ t) :: fr) e h :=
  wK_mono (Q := kS r P N rs vs Q fr) (wK_rgZ hN L1 hL hk) fun x e h hq => by cases x <;> exact hq
theorem go_y {l : List (Bool × SI)} {l2 : List SI} (L1 : List Item) (hL : L1.Sublist h.L) (hN : N ≤ 99999) (hk : regionX P ⟨h.G, L1, h.D⟩ l e h fun e h => regionH P l2 e h fun e h => go r P N rs vs Q fr e h) : go r P N rs vs Q (.s (.rgY l l2) :: fr) e h :=
  wK_mono (Q := kS r P N rs vs Q fr) (wK_rgY hN L1 hL hk) fun x e h hq => by cases x <;> exact hq
theorem go_skip (hk : go r P N rs vs Q fr e h) : go r P N rs vs Q (.s .skip :: fr) e h := wK_skip hk
theorem go_lab {l : Nat} (hk : go r P N rs vs Q fr e h) : go r P N rs vs Q (.s (.lab l) :: fr) e h := wK_lab hk
theorem go_exit {id : Nat} (hk : kS r P N rs vs Q fr (.exit id) e h) : go r P N rs vs Q (.s (.exit id) :: fr) e h := wK_exit hk
theorem go_ret (hk : Q .ret e h) : go r P N rs vs Q (.s .ret :: fr) e h := wK_ret (by rw [kS_ret]; exact hk)
theorem go_c {o : O} {x y : SC} (hk : doB (ev e o) (go r P N rs vs Q (.s x :: fr) e h) (go r P N rs vs Q (.s y :: fr) e h)) : go r P N rs vs Q (.s (.cond o x y) :: fr) e h := by
  unfold doB at hk
  split at hk
  · rename_i t ht
    exact wK_cond ht hk.1 hk.2
  · exact hk.elim
theorem go_blk {id : Nat} {x : SC} (hk : go r P N rs vs Q (.s x :: .b id :: fr) e h) : go r P N rs vs Q (.s (.blk id x) :: fr) e h := wK_blk hk
theorem go_b {id : Nat} (hk : go r P N rs vs Q fr e h) : go r P N rs vs Q (.b id :: fr) e h := hk
theorem go_scp {x : SC} (hk : go none P N rs vs Q (.s x :: .n :: fr) e h) : go none P N rs vs Q (.s (.scp x) :: fr) e h := wK_scp hk
theorem go_n (hk : go r P N rs vs Q fr e h) : go r P N rs vs Q (.n :: fr) e h := hk
theorem go_l {I : Env → H → Prop} (hk : I e h) : go r P N rs vs Q (.l I :: fr) e h := hk
theorem go_nil (hk : Q .normal e h) : go r P N rs vs Q [] e h := hk
/-- A loop: what holds at each round's head, and a number that falls. -/
theorem go_loop {x : SC} (I : Env → H → Prop) (μ : Env → H → Nat) (h0 : I e h) (round : ∀ e h, I e h → go r P N rs vs Q (.s x :: .l (fun e' h' => I e' h' ∧ μ e' h' < μ e h) :: fr) e h) : go r P N rs vs Q (.s (.loop x) :: fr) e h :=
  wK_loop I μ h0 round
theorem go_ghost {h' : H} {s : SC} (hg : Ghost h h') (hk : go r P N rs vs Q (.s s :: fr) e h') : go r P N rs vs Q (.s s :: fr) e h := wK_ghost hg hk
/-- Ways that meet again. -/
theorem go_cut {s : SC} (M : Env → H → Prop) (h1 : go r P N rs vs Q (.s s :: .l M :: fr) e h) (h2 : ∀ e h, M e h → go r P N rs vs Q fr e h) : go r P N rs vs Q (.s s :: fr) e h :=
  wK_mono (Q := kS r P N rs vs Q (.l M :: fr)) h1 fun x e h hq => by cases x <;> first | exact h2 e h hq | exact hq
theorem go_keep (is : List Nat) (hk : ∀ b, go r P N rs vs Q fr (keep e is b) h) : go r P N rs vs Q fr e h := by
  have := hk e
  rwa [keep_self] at this
theorem ex_s {x : SC} {i : Nat} : kS r P N rs vs Q (.s x :: fr) (.exit i) e h = kS r P N rs vs Q fr (.exit i) e h := rfl
theorem ex_o {i : Nat} : kS r P N rs vs Q (.n :: fr) (.exit i) e h = kS r P N rs vs Q fr (.exit i) e h := rfl
theorem ex_l {I : Env → H → Prop} {i : Nat} : kS r P N rs vs Q (.l I :: fr) (.exit i) e h = kS r P N rs vs Q fr (.exit i) e h := rfl
theorem ex_b {i j : Nat} (hij : (i == j) = true) : kS r P N rs vs Q (.b j :: fr) (.exit i) e h = go r P N rs vs Q fr e h := by
  have : i = j := by simpa using hij
  subst this
  simp [kS, blkH, go]
theorem ex_n {i j : Nat} (hij : (i == j) = false) : kS r P N rs vs Q (.b j :: fr) (.exit i) e h = kS r P N rs vs Q fr (.exit i) e h := by
  have : ¬ i = j := by simpa using hij
  simp [kS, blkH, this]
end rules
theorem gdY_u {P : Program} {b : Bool} {s : SOp} {c : Option Nat} {k d : Nat} {l : List SI} {e : Env} {h : H} {K : Env → H → Prop} : gdY P undef b s c k d l e h K = regionH P l (e.set k undef) h K := rfl
theorem gqY_u {P : Program} {b : Bool} {s : SOp} {c : Option Nat} {k d : Nat} {l : List SI} {e : Env} {h : H} {K : Env → Prop} : gqY P undef b s c k d l e h K = regionQ P l (e.set k undef) h K := rfl
attribute [push_cast] gdY_u gqY_u
theorem pickO_or (t q : Bool) : pickO (.bool t) (.bool true) (.bool q) = some (.bool (t || q)) := by cases t <;> rfl
theorem pickO_and (t p : Bool) : pickO (.bool t) (.bool p) (.bool false) = some (.bool (t && p)) := by cases t <;> rfl

attribute [push_cast] pickO_or pickO_and Bool.false_or Bool.true_or Bool.or_true Bool.or_false Bool.false_and Bool.and_false Bool.false_eq_true
theorem fill_nil (cs : List Value) : fillL [] cs = some cs := rfl
theorem fill_cons (o n : Nat) (xs cs : List Value) (r : List (Nat × Nat × List Value)) (h1 : (xs.length == n) = true) (h2 : o + n ≤ cs.length) : fillL ((o, n, xs) :: r) cs = fillL r (splice cs o xs) := by
  simp only [fillL]
  rw [if_pos ⟨by simpa using h1, h2⟩]
attribute [push_cast] decide_true decide_false fill_nil fill_cons
theorem mmV_n (k : IntKind) (a b : Int) : mmV false (.int k a) (.int k b) = some (.int k (min a b)) := by
  simp only [mmV, Bool.false_eq_true, if_false]
  congr 2
  omega
theorem mmV_x (k : IntKind) (a b : Int) : mmV true (.int k a) (.int k b) = some (.int k (max a b)) := by
  simp only [mmV, if_true]
  congr 2
  omega
attribute [push_cast] mmV_n mmV_x doB_t doB_f mix_u mix_in mix_out mix_hi keep_nil keep_cons ex_s ex_l ex_b ex_n ex_o
/-! A region whose order is open, with calls that make memory. -/
def gxX (P : Program) (h1 : H) (v : Value) (b t : Bool) (s : SOp) (c : Option Nat) (d k : Nat) (l : List (Bool × SI)) (e : Env) (h : H) (K : Env → H → Prop) : Prop :=
  match v with
  | .bool t' => if t' = b then regionX P h1 ((t, ⟨none, s, c, 0⟩) :: l) (e.set d (.bool b)) h K else regionX P h1 l ((e.set d (.bool !b)).set k undef) h K
  | _ => regionX P h1 l (e.set k undef) h K
section
variable {P : Program} {e : Env} {h h1 : H} {K : Env → H → Prop} {l : List (Bool × SI)} {k d : Nat} {c : Option Nat} {s : SOp} {t b : Bool}
theorem rx_nil : regionX P h1 [] e h K = K e h := rfl
theorem rx_t : regionX P h1 ((true, ⟨none, s, c, k⟩) :: l) e h K = regionQ P [⟨none, s, c, k⟩] e h1 fun e => regionX P h1 l e h K := rfl
theorem rx_f : regionX P h1 ((false, ⟨none, s, c, k⟩) :: l) e h K = regionH P [⟨none, s, c, k⟩] e h fun e h => Grow h1 h ∧ regionX P h1 l e h K := rfl
theorem rx_g : regionX P h1 ((t, ⟨some (d, b), s, c, k⟩) :: l) e h K = gxX P h1 (e d) b t s c d k l e h K := by
  have h0 : regionX P h1 ((t, ⟨some (d, b), s, c, k⟩) :: l) e h K = if gOk (e d) b = true then regionX P h1 ((t, ⟨none, s, c, 0⟩) :: l) e h K else regionX P h1 l (e.set k undef) h K := by
    cases t <;> rfl
  rw [h0]
  simp only [gxX]
  cases hv : e d <;> simp only [gOk, Bool.false_eq_true, if_false]
  rename_i t'
  by_cases ht : t' = b
  · subst ht
    simp only [beq_self_eq_true, if_true]
    rw [set_self hv]
  · have : (t' == b) = false := by simpa using ht
    have h2 : (!b) = t' := by cases t' <;> cases b <;> simp_all
    simp only [this, Bool.false_eq_true, if_false, ht]
    rw [h2, set_self hv]
theorem gxX_tt : gxX P h1 (.bool true) true t s c d k l e h K = regionX P h1 ((t, ⟨none, s, c, 0⟩) :: l) (e.set d (.bool true)) h K := by simp [gxX]
theorem gxX_ff : gxX P h1 (.bool false) false t s c d k l e h K = regionX P h1 ((t, ⟨none, s, c, 0⟩) :: l) (e.set d (.bool false)) h K := by simp [gxX]
theorem gxX_tf : gxX P h1 (.bool true) false t s c d k l e h K = regionX P h1 l ((e.set d (.bool true)).set k undef) h K := by simp [gxX]
theorem gxX_ft : gxX P h1 (.bool false) true t s c d k l e h K = regionX P h1 l ((e.set d (.bool false)).set k undef) h K := by simp [gxX]
theorem gxX_u : gxX P h1 undef b t s c d k l e h K = regionX P h1 l (e.set k undef) h K := rfl
theorem gx {t' : Bool} (p1 : t' = true → gxX P h1 (.bool true) b t s c d k l e h K) (p2 : t' = false → gxX P h1 (.bool false) b t s c d k l e h K) : gxX P h1 (.bool t') b t s c d k l e h K := by
  cases t'
  · exact p2 rfl
  · exact p1 rfl
theorem rz_leaf : regionZ P h1 (.leaf l) e h K = regionX P h1 l e h K := rfl
theorem rz_br {x y : RX} {u v : SI} : regionZ P h1 (.br l u x v y) e h K = regionX P h1 l e h fun e h => (regionX P h1 [(false, u)] e h fun e h => regionZ P h1 x e h K) ∧ (regionX P h1 [(false, v)] e h fun e h => regionZ P h1 y e h K) := rfl
theorem grow_G {G G' : Nat → Option Obj} {L : List Item} {D : List Nat} (hg : ∀ b o, G b = some o → G' b = some o) : Grow ⟨G, L, D⟩ ⟨G', L, D⟩ := ⟨hg, List.Sublist.refl _, rfl⟩
theorem grow_L {G G' : Nat → Option Obj} {L L' : List Item} {D : List Nat} (hg : ∀ b o, G b = some o → G' b = some o) (hL : L.Sublist L') : Grow ⟨G, L, D⟩ ⟨G', L', D⟩ := ⟨hg, hL, rfl⟩
theorem grow_0 {G : Nat → Option Obj} {L : List Item} {D : List Nat} : Grow ⟨G, L, D⟩ ⟨G, L, D⟩ := ⟨fun _ _ h => h, List.Sublist.refl _, rfl⟩
theorem grow_0i {G : Nat → Option Obj} {L : List Item} {D : List Nat} : Grow ⟨G, L, D⟩ ⟨G, L, D⟩ = True := eq_true grow_0
attribute [push_cast] rz_leaf rz_br rx_nil rx_t rx_f rx_g gxX_tt gxX_ff gxX_tf gxX_ft gxX_u grow_0i
end
end Go.Kx

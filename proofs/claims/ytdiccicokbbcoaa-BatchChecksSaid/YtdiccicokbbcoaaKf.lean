/- The fifteenth text of the small logic: code, statement by statement. No condition. -/
import Derived.Test.YtdiccicokbbcoaaKe
set_option linter.unusedSimpArgs false
set_option linter.unusedVariables false
namespace Go.Kx
open Go Go.RowKit

/-- Statements, one behind the other. -/
def wL (r : Option Nat) (P : Program) (N : Nat) (rs vs : List Nat) : List SC → (Exit → Env → H → Prop) → Env → H → Prop
  | [], Q, e, h => Q .normal e h
  | s :: ss, Q, e, h => wK r P N rs vs s (thenH (wL r P N rs vs ss Q) Q) e h

section rules
variable {r : Option Nat} {P : Program} {N : Nat} {rs vs : List Nat} {Q : Exit → Env → H → Prop} {e : Env} {h : H} {ss : List SC}
theorem wL_of {s : SC} (hk : wL r P N rs vs [s] Q e h) : wK r P N rs vs s Q e h := wK_mono hk fun x e h hq => by cases x <;> exact hq
theorem wL_seq {x y : SC} (hk : wL r P N rs vs (x :: y :: ss) Q e h) : wL r P N rs vs (.seq x y :: ss) Q e h :=
  wK_seq fun _ hK => wK_mono hk fun x e h hq => by cases x <;> first | exact hK e h hq | exact hq
theorem wL_r {l : List SI} (hk : regionH P l e h fun e h => wL r P N rs vs ss Q e h) (hN : N ≤ 99999 := by decide) : wL r P N rs vs (.reg false l :: ss) Q e h := wK_reg hN hk
theorem wL_q {l : List SI} (hk : regionQ P l e h fun e => wL r P N rs vs ss Q e h) (hN : N ≤ 99999 := by decide) : wL r P N rs vs (.reg true l :: ss) Q e h := wK_regQ hN hk
theorem wL_skip (hk : wL r P N rs vs ss Q e h) : wL r P N rs vs (.skip :: ss) Q e h := wK_skip hk
theorem wL_lab {l : Nat} (hk : wL r P N rs vs ss Q e h) : wL r P N rs vs (.lab l :: ss) Q e h := wK_lab hk
theorem wL_exit {id : Nat} (hk : Q (.exit id) e h) : wL r P N rs vs (.exit id :: ss) Q e h := wK_exit hk
theorem wL_ret (hk : Q .ret e h) : wL r P N rs vs (.ret :: ss) Q e h := wK_ret hk
theorem wL_c {o : O} {x y : SC} {t : Bool} (ht : ev e o = .bool t) (hx : t = true → wL r P N rs vs (x :: ss) Q e h) (hy : t = false → wL r P N rs vs (y :: ss) Q e h) : wL r P N rs vs (.cond o x y :: ss) Q e h := wK_cond ht hx hy
theorem wL_ct {o : O} {x y : SC} (ht : ev e o = .bool true) (hx : wL r P N rs vs (x :: ss) Q e h) : wL r P N rs vs (.cond o x y :: ss) Q e h := wK_cond ht (fun _ => hx) (fun h => by cases h)
theorem wL_cf {o : O} {x y : SC} (ht : ev e o = .bool false) (hx : wL r P N rs vs (y :: ss) Q e h) : wL r P N rs vs (.cond o x y :: ss) Q e h := wK_cond ht (fun h => by cases h) (fun _ => hx)
theorem wL_blk {id : Nat} {x : SC} (hk : wL r P N rs vs [x] (blkH id (thenH (wL r P N rs vs ss Q) Q)) e h) : wL r P N rs vs (.blk id x :: ss) Q e h := wK_blk (wL_of hk)
/-- A loop: what holds at each round's head, and a number that falls. -/
theorem wL_loop {x : SC} (I : Env → H → Prop) (μ : Env → H → Nat) (h0 : I e h) (round : ∀ e h, I e h → wL r P N rs vs [x] (thenH (fun e' h' => I e' h' ∧ μ e' h' < μ e h) (thenH (wL r P N rs vs ss Q) Q)) e h) : wL r P N rs vs (.loop x :: ss) Q e h :=
  wK_loop I μ h0 fun e h hi => wL_of (round e h hi)
theorem wL_ghost {h' : H} (hg : Ghost h h') (hk : wL r P N rs vs ss Q e h') (hne : ss ≠ []) : wL r P N rs vs ss Q e h := by
  cases ss with
  | nil => exact absurd rfl hne
  | cons s ss => exact wK_ghost hg hk
/-- Ways that meet again. -/
theorem wL_cut {s : SC} (M : Env → H → Prop) (h1 : wL r P N rs vs [s] (thenH M Q) e h) (h2 : ∀ e h, M e h → wL r P N rs vs ss Q e h) : wL r P N rs vs (s :: ss) Q e h :=
  wK_mono (wL_of h1) fun x e h hq => by cases x <;> first | exact h2 e h hq | exact hq
end rules

theorem set_eq (e : Env) (d : Nat) (v : Value) (i : Nat) : (e.set d v) i = if i = d then v else e i := rfl
@[simp] theorem pickV_bb (t p q : Bool) : pickV t (.bool p) (.bool q) = .bool (if t then p else q) := rfl
@[simp] theorem pickV_t (x y : Value) : pickV true x y = x := by rw [pickV_eq]; rfl
@[simp] theorem pickV_f (x y : Value) : pickV false x y = y := by rw [pickV_eq]; rfl
@[simp] theorem gOk_b (x b : Bool) : gOk (.bool x) b = (x == b) := rfl
end Go.Kx

/- The last text of the small logic: short helps. No condition. -/
import Derived.Test.YtdiccicokbbcoaaKm
set_option linter.unusedSimpArgs false
set_option linter.unusedVariables false
namespace Go.Kx
open Go Go.RowKit

theorem gx_blk_at {G : Nat → Option Obj} {D : List Nat} {b : Nat} {cs : List Value} (L1 L2 : List Item) :
    GhostX ⟨G, L1 ++ .blk b cs :: L2, D⟩ fun h' => ∃ G', h' = ⟨G', L1 ++ L2, D⟩ ∧ Gle G G' ∧ ∀ j u, cs[j]? = some u → cellG G' (Addr.add ⟨b, 0, none⟩ j) = some u :=
  (GhostX.of (ghost_perm List.perm_middle)).trans fun h' e => by subst e; exact gx_blk
theorem gx_slv_at {α : Type} {E : α → List Value → Prop} {G : Nat → Option Obj} {D : List Nat} {v : Value} {et : TypeId} {sz n : Nat} {ys : List Value} {xs : List α} (L1 L2 : List Item) (h0 : 0 < sz) (hc : Cells E sz xs ys) :
    GhostX ⟨G, L1 ++ .row v et sz n ys :: L2, D⟩ fun h' => ∃ G', h' = ⟨G', L1 ++ L2, D⟩ ∧ Gle G G' ∧ SlV G' E sz v xs :=
  (GhostX.of (ghost_perm List.perm_middle)).trans fun h' e => by subst e; exact gx_slv h0 hc
theorem stX_blk {P : Program} {h : H} {K : Env → H → Prop} {l : List SI} {e : Env} {b o k : Nat} {xs cs : List Value} (L1 L2 : List Item) (hL : h.L = L1 ++ .blk b cs :: L2) (ho : o + xs.length ≤ cs.length)
    (h1 : xs.length = k ∧ xs.all (·.oneCell') = true) (hk : regionH P l e { h with L := L1 ++ .blk b (splice cs o xs) :: L2 } K) : stX P (.pointer (some ⟨b, o, none⟩)) xs k l e h K := by
  refine ⟨_, ?_, h1, hk⟩
  rw [hL]
  exact .blk L1 ho
theorem resV_c {e : Env} {h : H} {s b : Nat} {v : Value} (h1 : e s = .pointer (some ⟨b, 0, none⟩)) (h2 : getB b h.L = some [v]) : resV e h [.c s none] = some [v] := by
  simp [resV, h1, blkO, h2, ldC]
theorem getB_h (b : Nat) (cs : List Value) (L : List Item) : getB b (.blk b cs :: L) = some cs := by simp [getB]
theorem yield_nil {α : Type} {P : Program} {l : Nat} {E : (Nat → Option Obj) → α → Array Value → Prop} {xs : List α} {I Ix : Nat → (Nat → Option Obj) → List Item → Prop} {G0 : Nat → Option Obj} (hy : Kx.Yields P l E xs I Ix G0) {i : Nat} {x : α} {args : Array Value} {G : Nat → Option Obj} {L : List Item}
    (hx : xs[i]? = some x) (hg : Gle G0 G) (hE : E G x args) (hI : I i G L) : YieldH P l args ⟨G, L, []⟩ fun v h' => ∃ G' L', h' = ⟨G', L', []⟩ ∧ Gle G G' ∧ NoRegs L' ∧ ((v = .bool true ∧ I (i + 1) G' L') ∨ (v = .bool false ∧ Ix i G' L')) := by
  have := hy i x args G L hx hg hE hI [] []
  simp only [List.append_nil] at this
  exact this
def iv1 : Value → Nat
  | .int _ j => (j + 1).toNat
  | _ => 0
theorem iv1_i (k : IntKind) (j : Int) : iv1 (.int k j) = (j + 1).toNat := rfl
theorem inc_i (k : Nat) (c : Nat) (hk : k < c) (hm : c ≤ maxLen) : IntKind.i64.wrap ((k : Int) + 1) = (k : Int) + 1 := by
  unfold maxLen at hm
  rw [w64_id] <;> omega
theorem half (i j : Nat) (h : i + j < 18446744073709551616) : binV .shr (.int .u64 (IntKind.u64.wrap (IntKind.i64.wrap ((i : Int) + j)))) (.int .u64 1) = some (.int .u64 (((i + j) / 2 : Nat) : Int)) := by
  have h1 : IntKind.u64.wrap (IntKind.i64.wrap ((i : Int) + j)) = ((i + j : Nat) : Int) := by
    rw [IntKind.wrap_i64, IntKind.wrap_u64]
    omega
  rw [h1]
  simp [binV, IntKind.bits]
  rw [Int.fdiv_eq_ediv_of_nonneg _ (by omega)]
theorem cvh (i j : Nat) (h : i + j < 18446744073709551616) : IntKind.i64.wrap (((i + j) / 2 : Nat) : Int) = (((i + j) / 2 : Nat) : Int) := by
  rw [w64_id] <;> omega
theorem fm_some {α β : Type} {f : α → Option β} {g : α → β} : ∀ {l : List α}, (∀ x ∈ l, f x = some (g x)) → l.filterMap f = l.map g
  | [], _ => rfl
  | x :: l, h => by
    rw [List.filterMap_cons, h x (.head _)]
    simp only [List.map_cons, List.cons.injEq, true_and]
    exact fm_some fun y hy => h y (.tail _ hy)
/-- What is handed over holds a list: it may stay as it is. -/
def OwnL {α : Type} (E : α → List Value → Prop) (et sz : Nat) (zs : List α) (L' : List Item) (r : Value) : Prop := ∃ ys, Cells E sz zs ys ∧ L' = [.row r et sz zs.length ys]
theorem ownL_d {α : Type} {P : Program} {f : FuncId} {args : Array Value} {G : Nat → Option Obj} {E : α → List Value → Prop} {et sz : Nat} {zs : List α} (h0 : 0 < sz) (hf : FnO P f args G [] (fun _ L' r => OwnL E et sz zs L' r)) : FnD P f args G (fun G' r => SlV G' E sz r zs) :=
  FnO.fnD (L1 := []) hf fun G' L' v ⟨ys, h1, h2⟩ _ L D => by
    subst h2
    exact gx_slv h0 h1
end Go.Kx

/- The twenty-first text of the small logic: from the world to the logic and back. No condition. -/
import Derived.Test.YtdiccicokbbcoaaKk
import Derived.Below
import Derived.Deep.Slices
import Derived.Deep.Fields
import Derived.ChangeSame
set_option linter.unusedSimpArgs false
set_option linter.unusedVariables false
namespace Go.Kx
open Go Go.RowKit Go.ChangeShapes Go.WideShapes Go.Deep

/-- All that is there stays as it is. -/
def allG (W : World) : Nat → Option Obj := fun b => W.heap[b]?
theorem sat_all (W : World) : Sat (fun _ => 0) ⟨allG W, [], []⟩ W :=
  ⟨fun _ _ h => h, (fun _ h => by cases h), List.nodup_nil, (fun _ h => by cases h), (fun _ h => by cases h)⟩
theorem FnS.calls {P : Program} {f : FuncId} {args : Array Value} {W : World} {v : Value} (h : FnS P f args (allG W) v) : Calls P f args W fun e w' => e = .returned v ∧ Below W.heap.size W w' := by
  refine ((h [] []).2 _ W (sat_all W)).mono ?_
  rintro x w' ⟨r, h', rfl, _, s, t, rfl, rfl⟩
  exact ⟨rfl, t.os, t.tape, t.output, t.size, fun k hk => t.old k hk (by simp [dom])⟩
theorem cellG_all {W : World} {a : Addr} {v : Value} (h : W.cell? a = some v) : cellG (allG W) a = some v := by
  unfold cellG allG
  unfold World.cell? at h
  exact h
/-- A list, from its elements. -/
theorem slA_of {α : Type} {E : α → List Value → Prop} {sz : Nat} {G : Nat → Option Obj} {a : Addr} : ∀ (n : Nat), (∀ i, i < n → ∃ (x : α) (cs : List Value), cs.length = sz ∧ E x cs ∧ ∀ j u, cs[j]? = some u → cellG G (a.add (i * sz + j)) = some u) →
    ∃ xs : List α, xs.length = n ∧ SlA G E sz (some a) xs
  | 0, _ => ⟨[], rfl, fun i x hx => by simp at hx⟩
  | n + 1, h => by
    obtain ⟨xs, hl, hA⟩ := slA_of n fun i hi => h i (by omega)
    obtain ⟨x, cs, h1, h2, h3⟩ := h n (by omega)
    refine ⟨xs ++ [x], by simp [hl], fun i y hy => ?_⟩
    rw [List.getElem?_append] at hy
    split at hy
    · exact hA i y hy
    · rename_i hi
      have : i = n := by
        have := (List.getElem?_eq_some_iff.1 hy).1
        simp at this
        omega
      subst this
      rw [hl] at hy
      simp at hy
      subst hy
      exact ⟨a, cs, rfl, h1, h2, h3⟩
section
variable {H : Type} {enc : TypeId × Value → H} {P : Program} {w : World} {base : Nat} {spare : Nat → Bool} {held : Bool}
theorem open_slice_fields {t e : TypeId} {fs : Array Field} {fuel : Nat} {cs : List Value} {x : DataW H × List MemPlace} (ht : P.underlying t = some (.slice e)) (he : P.underlying e = some (.struct fs))
    (hone : oneCellFields P fs = true) (hC : P.cellsOf e = fs.size) (h : DataW.trod enc P w base spare held fuel t cs = some x) :
    (cs = [.slice none 0 0] ∧ x = (.nil, [])) ∨
    ∃ (a : Addr) (len cap m : Nat) (D : Nat → DataW H) (Pl : Nat → List MemPlace), cs = [.slice (some a) len cap] ∧ base ≤ a.block ∧ len ≤ cap ∧ cap ≤ maxLen ∧ m = (if spare a.block then cap else len) ∧
      x = (.slice ((List.range len).map D) ((List.range (m - len)).map fun j => D (len + j)), MemPlace.row a (m * fs.size) ++ (List.range m).flatMap Pl) ∧
      ∀ i, i < m → ∃ (ys : List (DataW H × List MemPlace)) (n : Nat), D i = .agg (ys.map (·.1)) ∧ Pl i = ys.flatMap (·.2) ∧ ys.length = fs.size ∧
        ∀ (j : Nat) (f : Field), fs[j]? = some f → ∃ (v : Value) (y : DataW H × List MemPlace), w.cell? (a.add (i * fs.size + j)) = some v ∧ ys[j]? = some y ∧ DataW.trod enc P w base spare held n f.type [v] = some y := by
  rcases open_slice ht h with h0 | ⟨a, len, cap, m, n, D, Pl, hcs, hb, hl, hm, hmm, hx, hi⟩
  · exact .inl h0
  · refine .inr ⟨a, len, cap, m, D, Pl, hcs, hb, hl, hm, hmm, by rw [hC] at hx; exact hx, fun i him => ?_⟩
    obtain ⟨cs', hc, ht'⟩ := hi i him
    rw [hC] at hc
    obtain ⟨ys, n', hn', hy, hlen, hyl, hf⟩ := DataW.trod_struct he ht'
    obtain ⟨_, hcl, hat⟩ := World.cells?_some hc
    simp only [Prod.mk.injEq] at hy
    refine ⟨ys, n', hy.1, hy.2, hyl, fun j f hj => ?_⟩
    obtain ⟨ho, hk⟩ := hone_of hone j f hj
    have hjl : j < fs.size := (Array.getElem?_eq_some_iff.1 hj).1
    have hcell := hat j hjl
    have hv : cs'[j]? = some (cs'[j]'(by omega)) := List.getElem?_eq_getElem (by omega)
    have h1 := hf j f hj
    rw [ho, hk] at h1
    have hone' : (cs'.drop j).take 1 = [cs'[j]'(by omega)] := by
      rw [List.drop_eq_getElem_cons (by omega)]
      rfl
    rw [hone'] at h1
    have hys : ys[j]? = some (ys[j]'(by omega)) := List.getElem?_eq_getElem (by omega)
    refine ⟨_, _, ?_, hys, h1.trans hys⟩
    rw [← Go.Deep.add_add, hcell, hv]
end
end Go.Kx

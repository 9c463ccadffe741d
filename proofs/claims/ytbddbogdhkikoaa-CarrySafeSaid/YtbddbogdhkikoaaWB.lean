/- What came in, read. No condition. -/
import Derived.Test.YtbddbogdhkikoaaW2
import Derived.Test.YtbddbogdhkikoaaRows
import Derived.WalkKit
import Derived.ProofKit
import Derived.OpenShut
import Derived.ShutString
import Derived.ChangeOld
import Derived.ChangeSame
import Derived.Below
set_option linter.unusedSimpArgs false
set_option linter.unusedVariables false
namespace Go.Proofs.Ytbddbogdhkikoaa
open Go Go.Kx Go.ChangeShapes Go.WideShapes Go.ChangeAt Go.RowKit

theorem own : ownKnob Try.prog.godebug = none := by kernel_rfl
theorem laidOut : laidOutB Try.prog = true := by kernel_rfl

theorem wf_I64 {n : Int} (h : (Lit.int .i64 n).wf = true) : I64 n := by
  simp [Lit.wf, IntKind.min, IntKind.max, IntKind.signed, IntKind.bits] at h
  exact h
/-- Pairs that came in. -/
theorem open_pairs {H : Type} {enc : TypeId × Value → H} {W : World} {fuel : Nat} {cs : List Value} {x : DataW H × List MemPlace}
    (h : DataW.trod enc Try.prog W 0 (fun _ => true) true fuel 22 cs = some x) : ∃ (l : List Pr) (A : Option Addr) (c : Nat), cs = [.slice A l.length c] ∧ l.length ≤ c ∧ c ≤ maxLen ∧ SlA (allG W) EE 2 A l := by
  rcases Go.Kx.open_slice_fields Try.underlying22 Try.underlying44 (by kernel_rfl) (by kernel_rfl) h with ⟨hcs, _⟩ | ⟨a, len, cap, m, D, Pl, hcs, _, hl, hm, hmm, _, hi⟩
  · exact ⟨[], none, 0, hcs, Nat.le_refl _, Nat.zero_le _, fun i x hx => by simp at hx⟩
  · obtain ⟨xs, hx, hA⟩ := slA_of (α := Pr) (E := EE) (sz := 2) (G := allG W) (a := a) len fun i hlt => by
      obtain ⟨ys, n, _, _, _, hj⟩ := hi i (by rw [hmm]; simp; omega)
      obtain ⟨v0, y0, c0, _, t0⟩ := hj 0 _ rfl
      obtain ⟨v1, y1, c1, _, t1⟩ := hj 1 _ rfl
      obtain ⟨n0, e0, _, w0⟩ := DataW.trod_int Try.underlying3 t0
      obtain ⟨n1, e1, _, w1⟩ := DataW.trod_int Try.underlying3 t1
      cases e0; cases e1
      refine ⟨(n0, n1), [.int .i64 n0, .int .i64 n1], rfl, ⟨rfl, wf_I64 w0, wf_I64 w1⟩, fun j u hu => ?_⟩
      match j, hu with
      | 0, hu => cases hu; exact cellG_all c0
      | 1, hu => cases hu; exact cellG_all c1
    subst hx
    exact ⟨xs, some a, cap, hcs, hl, hm, hA⟩
/-- A translation that came in. -/
theorem open_trans {H : Type} {enc : TypeId × Value → H} {W : World} {base : Nat} {v : Value} {d : DataW H} {p : List MemPlace} (hv : Value.okWide Try.prog W .any base 24 v)
    (h : DataW.Trod enc Try.prog W 0 (fun _ => true) true 24 v d p) : ∃ t cs, v = .agg cs.toArray ∧ TE (allG W) t cs := by
  obtain ⟨cs, rfl, hsz⟩ := okWide_struct Try.underlying24 hv
  obtain ⟨fuel, hf⟩ := h
  obtain ⟨y0, y1, n, _, hl, h0, h1⟩ := trod_struct2 Try.underlying24 hf
  have hl : cs.toList.length = 2 := by simpa [Value.cells, show Try.prog.cellsOf 24 = 2 by kernel_rfl] using hl
  obtain ⟨u0, u1, hcs⟩ : ∃ u0 u1, cs.toList = [u0, u1] := by
    match hh : cs.toList, hl with
    | [u0, u1], _ => exact ⟨u0, u1, rfl⟩
  have h0 : DataW.trod enc Try.prog W 0 (fun _ => true) true n 3 [u0] = some y0 := by
    simpa [Value.cells, hcs, show Try.prog.cellsOf 3 = 1 by kernel_rfl] using h0
  have h1 : DataW.trod enc Try.prog W 0 (fun _ => true) true n 22 [u1] = some y1 := by
    simpa [Value.cells, hcs, show Try.prog.cellsOf 22 = 1 by kernel_rfl] using h1
  obtain ⟨n0, e0, _, w0⟩ := DataW.trod_int Try.underlying3 h0
  obtain ⟨l, A, c, e1, f1, f2, f3⟩ := open_pairs h1
  refine ⟨⟨n0, l⟩, cs.toList, by simp, A, c, ?_, ⟨f1, f2, f3⟩, wf_I64 w0⟩
  rw [hcs]
  simp at e0 e1
  rw [e0, e1]
end Go.Proofs.Ytbddbogdhkikoaa

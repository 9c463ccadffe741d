/- What came in, read. No condition. -/
import Derived.Test.YtgclikgkfchmlaaW2
import Derived.Test.YtgclikgkfchmlaaRows
import Derived.WalkKit
import Derived.ProofKit
import Derived.OpenShut
import Derived.ShutString
import Derived.ChangeOld
import Derived.Below
set_option linter.unusedSimpArgs false
set_option linter.unusedVariables false
namespace Go.Proofs.Ytgclikgkfchmlaa
open Go Go.Kx Go.ChangeShapes Go.WideShapes Go.ChangeAt Go.RowKit

theorem own : ownKnob Try.prog.godebug = none := by kernel_rfl
theorem laidOut : laidOutB Try.prog = true := by kernel_rfl

theorem wf_I64 {n : Int} (h : (Lit.int .i64 n).wf = true) : I64 n := by
  simp [Lit.wf, IntKind.min, IntKind.max, IntKind.signed, IntKind.bits] at h
  exact h
/-- Epochs that came in. -/
theorem open_epos {H : Type} {enc : TypeId × Value → H} {W : World} {v : Value} {d : DataW H} {p : List MemPlace} {A : Option Addr} {len cap : Nat} (hv : v = .slice A len cap)
    (h : DataW.Trod enc Try.prog W 0 (fun _ => true) true 22 v d p) : ∃ l, SEpo (allG W) v l := by
  subst hv
  obtain ⟨fuel, hf⟩ := h
  rcases Go.Kx.open_slice_fields Try.underlying22 Try.underlying32 (by kernel_rfl) (by kernel_rfl) hf with ⟨hcs, _⟩ | ⟨a, len', cap', m, D, Pl, hcs, _, hl, hm, hmm, _, hi⟩
  · simp [Value.cells] at hcs
    obtain ⟨rfl, rfl, rfl⟩ := hcs
    exact ⟨[], none, 0, rfl, Nat.le_refl _, Nat.zero_le _, fun i x hx => by simp at hx⟩
  · simp [Value.cells] at hcs
    obtain ⟨rfl, rfl, rfl⟩ := hcs
    obtain ⟨xs, hx, hA⟩ := slA_of (α := Epo) (E := EE) (sz := 2) (G := allG W) (a := a) len fun i hlt => by
      obtain ⟨ys, n, _, _, _, hj⟩ := hi i (by rw [hmm]; simp; omega)
      obtain ⟨v0, y0, c0, _, t0⟩ := hj 0 _ rfl
      obtain ⟨v1, y1, c1, _, t1⟩ := hj 1 _ rfl
      obtain ⟨n0, e0, _, w0⟩ := DataW.trod_int Try.underlying3 t0
      obtain ⟨n1, e1, _, w1⟩ := DataW.trod_int Try.underlying3 t1
      cases e0; cases e1
      refine ⟨(n0, n1), [.int .i64 n0, .int .i64 n1], rfl, ⟨rfl, wf_I64 w0, wf_I64 w1⟩, fun j u hu => ?_⟩
      match j, hu with
      | 0, hu => cases hu; exact cellG_all c0
      | 1, hu => cases hu; exact cellG_all c1
    subst hx
    exact ⟨xs, some a, cap, rfl, hl, hm, hA⟩

end Go.Proofs.Ytgclikgkfchmlaa

/- What came in, read: numbers. No condition. -/
import Derived.Test.YtbddbogdhkikoaaWB
import Derived.Test.YtbddbogdhkikoaaW1
import Derived.ChangeSlices
set_option linter.unusedSimpArgs false
set_option linter.unusedVariables false
namespace Go.Proofs.Ytbddbogdhkikoaa
open Go Go.Kx Go.ChangeShapes Go.WideShapes Go.ChangeAt Go.RowKit
theorem open_nums {H : Type} {enc : TypeId × Value → H} {W : World} {v : Value} {d : DataW H} {p : List MemPlace} {A : Option Addr} {len cap : Nat} (hv : v = .slice A len cap)
    (h : DataW.Trod enc Try.prog W 0 (fun _ => true) true 38 v d p) : ∃ l, SlV (allG W) IE 1 v l := by
  subst hv
  obtain ⟨fuel, hf⟩ := h
  rcases open_ints Try.underlying38 Try.underlying3 (by kernel_rfl) hf with ⟨hcs, _⟩ | ⟨a, len', cap', zs, hcs, _, hl, hm, hzl, _, hc, hw⟩
  · simp [Value.cells] at hcs
    obtain ⟨rfl, rfl, rfl⟩ := hcs
    exact ⟨[], none, 0, rfl, Nat.le_refl _, Nat.zero_le _, fun i x hx => by simp at hx⟩
  · simp [Value.cells] at hcs
    obtain ⟨rfl, rfl, rfl⟩ := hcs
    obtain ⟨xs, hx, hA⟩ := slA_of (α := Int) (E := IE) (sz := 1) (G := allG W) (a := a) len fun i hlt => by
      have hi : i < zs.length := by rw [hzl]; simp; omega
      have hmem : zs.getD i 0 ∈ zs := by rw [List.getD_eq_getElem?_getD, List.getElem?_eq_getElem hi]; exact List.getElem_mem hi
      refine ⟨zs.getD i 0, [.int .i64 (zs.getD i 0)], rfl, ⟨rfl, wf_I64 (hw _ hmem)⟩, fun j u hu => ?_⟩
      match j, hu with
      | 0, hu =>
        cases hu
        have := cellG_all (hc i hi)
        simpa using this
    subst hx
    exact ⟨xs, some a, cap, rfl, hl, hm, hA⟩
end Go.Proofs.Ytbddbogdhkikoaa

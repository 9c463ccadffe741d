/- What came in, read: batches. No condition. -/
import Derived.Test.YtgclikgkfchmlaaWB
import Derived.Test.YtgclikgkfchmlaaW20
set_option linter.unusedSimpArgs false
set_option linter.unusedVariables false
namespace Go.Proofs.Ytgclikgkfchmlaa
open Go Go.Kx Go.ChangeShapes Go.WideShapes Go.ChangeAt Go.RowKit

theorem open_recs {H : Type} {enc : TypeId × Value → H} {W : World} {fuel : Nat} {cs : List Value} {x : DataW H × List MemPlace}
    (h : DataW.trod enc Try.prog W 0 (fun _ => true) true fuel 47 cs = some x) : ∃ (rs : List Rec) (A : Option Addr) (c : Nat), cs = [.slice A rs.length c] ∧ rs.length ≤ c ∧ c ≤ maxLen ∧ SlA (allG W) RR 5 A rs := by
  rcases Go.Kx.open_slice_fields Try.underlying47 Try.underlying66 (by kernel_rfl) (by kernel_rfl) h with ⟨hcs, _⟩ | ⟨a, len, cap, m, D, Pl, hcs, _, hl, hm, hmm, _, hi⟩
  · exact ⟨[], none, 0, hcs, Nat.le_refl _, Nat.zero_le _, fun i x hx => by simp at hx⟩
  · obtain ⟨xs, hx, hA⟩ := slA_of (α := Rec) (E := RR) (sz := 5) (G := allG W) (a := a) len fun i hlt => by
      obtain ⟨ys, n, _, _, _, hj⟩ := hi i (by rw [hmm]; simp; omega)
      obtain ⟨v0, y0, c0, _, t0⟩ := hj 0 _ rfl
      obtain ⟨v1, y1, c1, _, t1⟩ := hj 1 _ rfl
      obtain ⟨v2, y2, c2, _, t2⟩ := hj 2 _ rfl
      obtain ⟨v3, y3, c3, _, t3⟩ := hj 3 _ rfl
      obtain ⟨v4, y4, c4, _, t4⟩ := hj 4 _ rfl
      obtain ⟨n0, e0, _, w0⟩ := DataW.trod_int Try.underlying3 t0
      obtain ⟨n1, e1, _, w1⟩ := DataW.trod_string Try.underlying9 t1
      obtain ⟨n2, e2, _, w2⟩ := DataW.trod_string Try.underlying9 t2
      obtain ⟨n3, e3, _⟩ := DataW.trod_bool Try.underlying4 t3
      obtain ⟨n4, e4, _, w4⟩ := DataW.trod_int Try.underlying3 t4
      cases e0; cases e1; cases e2; cases e3; cases e4
      refine ⟨⟨n0, n1, n2, n3, n4⟩, [.int .i64 n0, .string n1, .string n2, .bool n3, .int .i64 n4], rfl, ⟨rfl, ⟨wf_I64 w0, wf_I64 w4⟩, w1, w2⟩, fun j u hu => ?_⟩
      match j, hu with
      | 0, hu => cases hu; exact cellG_all c0
      | 1, hu => cases hu; exact cellG_all c1
      | 2, hu => cases hu; exact cellG_all c2
      | 3, hu => cases hu; exact cellG_all c3
      | 4, hu => cases hu; exact cellG_all c4
    subst hx
    exact ⟨xs, some a, cap, hcs, hl, hm, hA⟩
theorem open_batches {H : Type} {enc : TypeId × Value → H} {W : World} {v : Value} {d : DataW H} {p : List MemPlace} {A : Option Addr} {len cap : Nat} (hv : v = .slice A len cap)
    (h : DataW.Trod enc Try.prog W 0 (fun _ => true) true 41 v d p) : ∃ l, SBat (allG W) v l := by
  subst hv
  obtain ⟨fuel, hf⟩ := h
  rcases Go.Kx.open_slice_fields Try.underlying41 Try.underlying49 (by kernel_rfl) (by kernel_rfl) hf with ⟨hcs, _⟩ | ⟨a, len', cap', m, D, Pl, hcs, _, hl, hm, hmm, _, hi⟩
  · simp [Value.cells] at hcs
    obtain ⟨rfl, rfl, rfl⟩ := hcs
    exact ⟨[], none, 0, rfl, Nat.le_refl _, Nat.zero_le _, fun i x hx => by simp at hx⟩
  · simp [Value.cells] at hcs
    obtain ⟨rfl, rfl, rfl⟩ := hcs
    obtain ⟨xs, hx, hA⟩ := slA_of (α := Batch) (E := BE (allG W)) (sz := 10) (G := allG W) (a := a) len fun i hlt => by
      obtain ⟨ys, n, _, _, _, hj⟩ := hi i (by rw [hmm]; simp; omega)
      obtain ⟨v0, y0, c0, _, t0⟩ := hj 0 _ rfl
      obtain ⟨v1, y1, c1, _, t1⟩ := hj 1 _ rfl
      obtain ⟨v2, y2, c2, _, t2⟩ := hj 2 _ rfl
      obtain ⟨v3, y3, c3, _, t3⟩ := hj 3 _ rfl
      obtain ⟨v4, y4, c4, _, t4⟩ := hj 4 _ rfl
      obtain ⟨v5, y5, c5, _, t5⟩ := hj 5 _ rfl
      obtain ⟨v6, y6, c6, _, t6⟩ := hj 6 _ rfl
      obtain ⟨v7, y7, c7, _, t7⟩ := hj 7 _ rfl
      obtain ⟨v8, y8, c8, _, t8⟩ := hj 8 _ rfl
      obtain ⟨v9, y9, c9, _, t9⟩ := hj 9 _ rfl
      obtain ⟨n0, e0, _, w0⟩ := DataW.trod_int Try.underlying3 t0
      obtain ⟨n1, e1, _, w1⟩ := DataW.trod_int Try.underlying3 t1
      obtain ⟨n2, e2, _, w2⟩ := DataW.trod_int Try.underlying3 t2
      obtain ⟨n3, e3, _, w3⟩ := DataW.trod_int Try.underlying3 t3
      obtain ⟨n4, e4, _, w4⟩ := DataW.trod_int Try.underlying3 t4
      obtain ⟨n5, e5, _, w5⟩ := DataW.trod_int Try.underlying3 t5
      obtain ⟨n6, e6, _, w6⟩ := DataW.trod_int Try.underlying3 t6
      obtain ⟨n7, e7, _⟩ := DataW.trod_bool Try.underlying4 t7
      obtain ⟨n8, e8, _, w8⟩ := DataW.trod_int Try.underlying3 t8
      obtain ⟨rs, A9, k9, e9, f1, f2, f3⟩ := open_recs t9
      cases e0; cases e1; cases e2; cases e3; cases e4; cases e5; cases e6; cases e7; cases e8; cases e9
      refine ⟨⟨n0, n1, n2, n3, n4, n5, n6, n7, n8, rs⟩, [.int .i64 n0, .int .i64 n1, .int .i64 n2, .int .i64 n3, .int .i64 n4, .int .i64 n5, .int .i64 n6, .bool n7, .int .i64 n8, .slice A9 rs.length k9], rfl,
        ⟨A9, k9, rfl, ⟨f1, f2, f3⟩, wf_I64 w0, wf_I64 w1, wf_I64 w2, wf_I64 w3, wf_I64 w4, wf_I64 w5, wf_I64 w6, wf_I64 w8⟩, fun j u hu => ?_⟩
      match j, hu with
      | 0, hu => cases hu; exact cellG_all c0
      | 1, hu => cases hu; exact cellG_all c1
      | 2, hu => cases hu; exact cellG_all c2
      | 3, hu => cases hu; exact cellG_all c3
      | 4, hu => cases hu; exact cellG_all c4
      | 5, hu => cases hu; exact cellG_all c5
      | 6, hu => cases hu; exact cellG_all c6
      | 7, hu => cases hu; exact cellG_all c7
      | 8, hu => cases hu; exact cellG_all c8
      | 9, hu => cases hu; exact cellG_all c9
    subst hx
    exact ⟨xs, some a, cap, rfl, hl, hm, hA⟩
end Go.Proofs.Ytgclikgkfchmlaa

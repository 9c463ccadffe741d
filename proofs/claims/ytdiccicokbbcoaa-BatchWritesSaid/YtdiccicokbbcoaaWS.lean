/- Bytes, part 19 of a proof: what came in, opened. No condition. -/
import Derived.Test.YtdiccicokbbcoaaWQ
import Derived.Test.YtdiccicokbbcoaaKr
import Derived.Test.YtdiccicokbbcoaaRows
import Derived.WalkKit
import Derived.ProofKit
import Derived.OpenShut
import Derived.ShutString
import Derived.ChangeOld
import Derived.ChangeSame
import Derived.Below
set_option linter.unusedSimpArgs false
set_option linter.unusedVariables false
namespace Go.Proofs.Ytdiccicokbbcoaa
open Go Go.Kx Go.ChangeShapes Go.WideShapes Go.ChangeAt Go.RowKit

theorem own : ownKnob Try.prog.godebug = none := by kernel_rfl
theorem laidOut : laidOutB Try.prog = true := by kernel_rfl
theorem opens_rec (W : World) : Opens Try.prog W 39 RR := fun H enc fuel cs x hx => by
  obtain ⟨hl, hf⟩ := opens_fields Try.underlying39 (by kernel_rfl) (by kernel_rfl) hx
  obtain ⟨v0, _, _, c0, t0⟩ := hf 0 _ rfl
  obtain ⟨v1, _, _, c1, t1⟩ := hf 1 _ rfl
  obtain ⟨v2, _, _, c2, t2⟩ := hf 2 _ rfl
  obtain ⟨v3, _, _, c3, t3⟩ := hf 3 _ rfl
  obtain ⟨v4, _, _, c4, t4⟩ := hf 4 _ rfl
  obtain ⟨n0, e0, w0⟩ := (opens_int Try.underlying3).at_ t0
  obtain ⟨n1, e1, w1⟩ := (opens_string Try.underlying9).at_ t1
  obtain ⟨n2, e2, w2⟩ := (opens_string Try.underlying9).at_ t2
  obtain ⟨n3, e3⟩ := (opens_bool Try.underlying4).at_ t3
  obtain ⟨n4, e4, w4⟩ := (opens_int Try.underlying3).at_ t4
  cases e0; cases e1; cases e2; cases e3; cases e4
  refine ⟨⟨n0, n1, n2, n3, n4⟩, ?_, ⟨wf_i64 w0, wf_i64 w4⟩, w1, w2⟩
  match cs, hl with
  | [_, _, _, _, _], _ => cases c0; cases c1; cases c2; cases c3; cases c4; rfl
theorem opens_recs (W : World) : Opens Try.prog W 22 (fun (l : List Rec) cs => ∃ A c, cs = [.slice A l.length c] ∧ l.length ≤ c ∧ c ≤ maxLen ∧ SlA (allG W) RR 5 A l) :=
  opens_slice Try.underlying22 (by kernel_rfl) (opens_rec W)
theorem opens_batch (W : World) : Opens Try.prog W 24 (BE (allG W)) := fun H enc fuel cs x hx => by
  obtain ⟨hl, hf⟩ := opens_fields Try.underlying24 (by kernel_rfl) (by kernel_rfl) hx
  obtain ⟨v0, _, _, c0, t0⟩ := hf 0 _ rfl
  obtain ⟨v1, _, _, c1, t1⟩ := hf 1 _ rfl
  obtain ⟨v2, _, _, c2, t2⟩ := hf 2 _ rfl
  obtain ⟨v3, _, _, c3, t3⟩ := hf 3 _ rfl
  obtain ⟨v4, _, _, c4, t4⟩ := hf 4 _ rfl
  obtain ⟨v5, _, _, c5, t5⟩ := hf 5 _ rfl
  obtain ⟨v6, _, _, c6, t6⟩ := hf 6 _ rfl
  obtain ⟨v7, _, _, c7, t7⟩ := hf 7 _ rfl
  obtain ⟨v8, _, _, c8, t8⟩ := hf 8 _ rfl
  obtain ⟨v9, _, _, c9, t9⟩ := hf 9 _ rfl
  obtain ⟨n0, e0, w0⟩ := (opens_int Try.underlying3).at_ t0
  obtain ⟨n1, e1, w1⟩ := (opens_int Try.underlying3).at_ t1
  obtain ⟨n2, e2, w2⟩ := (opens_int Try.underlying3).at_ t2
  obtain ⟨n3, e3, w3⟩ := (opens_int Try.underlying3).at_ t3
  obtain ⟨n4, e4, w4⟩ := (opens_int Try.underlying3).at_ t4
  obtain ⟨n5, e5, w5⟩ := (opens_int Try.underlying3).at_ t5
  obtain ⟨n6, e6, w6⟩ := (opens_int Try.underlying3).at_ t6
  obtain ⟨n7, e7⟩ := (opens_bool Try.underlying4).at_ t7
  obtain ⟨n8, e8, w8⟩ := (opens_int Try.underlying3).at_ t8
  obtain ⟨n9, A, c, e9, w9⟩ := (opens_recs W).at_ t9
  cases e0; cases e1; cases e2; cases e3; cases e4; cases e5; cases e6; cases e7; cases e8; cases e9
  refine ⟨⟨n0, n1, n2, n3, n4, n5, n6, n7, n8, n9⟩, A, c, ?_, w9, wf_i64 w0, wf_i64 w1, wf_i64 w2, wf_i64 w3, wf_i64 w4, wf_i64 w5, wf_i64 w6, wf_i64 w8⟩
  match cs, hl with
  | [_, _, _, _, _, _, _, _, _, _], _ => cases c0; cases c1; cases c2; cases c3; cases c4; cases c5; cases c6; cases c7; cases c8; cases c9; rfl
theorem opens_byte (W : World) : Opens Try.prog W 5 UE := (opens_int Try.underlying5).mono fun n cs ⟨h1, h2⟩ => ⟨UInt8.ofNat n.toNat, by rw [UE, ← wf_u8 h2]; exact h1⟩
theorem opens_bytes (W : World) : Opens Try.prog W 27 (fun (l : List UInt8) cs => ∃ A c, cs = [.slice A l.length c] ∧ l.length ≤ c ∧ c ≤ maxLen ∧ SlA (allG W) UE 1 A l) :=
  opens_slice Try.underlying27 (by kernel_rfl) (opens_byte W)
theorem opens_batches (W : World) : Opens Try.prog W 48 (fun (l : List Batch) cs => ∃ A c, cs = [.slice A l.length c] ∧ l.length ≤ c ∧ c ≤ maxLen ∧ SlA (allG W) (BE (allG W)) 10 A l) :=
  opens_slice Try.underlying48 (by kernel_rfl) (opens_batch W)
end Go.Proofs.Ytdiccicokbbcoaa

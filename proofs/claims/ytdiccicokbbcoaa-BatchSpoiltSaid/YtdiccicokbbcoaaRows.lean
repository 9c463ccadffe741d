/-
  No cell of these rows narrows 'for every input' (looked for: loops, veiled, ifaces, maps, wideKeys, modest, calm, conditions, laid).
  DERIVED. THE GIVEN ROWS OF THIS SEAT. 9 by the template 'for every input the law returns true; each argument reads behind the call as it read before'; 0 by the template 'total and deterministic' (their statements: YtdiccicokbbcoaaTotals.lean).
  GIVEN WITH THE SEED: the statements are not yours to turn. If you find one false, say at which input.
  Laid BY PROGRAM, IN A SANDBOX (cutbox-rows.mjs): the forced cells as the released guide's own fill.sh prints them over the translation f52801d4d97ac168… (all of the seat's roots in one cut). By AI agents, Wed Nov 11 2026. No macro, syntax, notation, axiom, sorry.
-/
import Derived.Test.YtdiccicokbbcoaaChecked
import GoSem.Claim
import GoSem.ClaimJoined
import GoSem.ClaimMapViews
import Derived.JoinedTies
import Derived.KernelRfl
namespace Go.Proofs.Ytdiccicokbbcoaa
/- THE CELL 'sum', in the pinned program and in every row, IS THE sha256 OF THE DUMP (.gsa) THAT YtdiccicokbbcoaaProg.lean LOADS. Nothing in Lean hashes anything: it is a label: what it is worth is what the hold of that sum in a sandbox is worth. -/
noncomputable def Try.pinned : Pinned := { name := "ytdiccicokbbcoaa", sum := "f52801d4d97ac168ecbae42e4ade12d0587b3b969f66845d2a43b52f63c07fe1", checked := Try.checked }
namespace Rows
def none {H : Type} : Left H := { results := [], args := [] }

/-- 'watermeetlaw04.BatchWrites': WHATEVER THE INPUT: true; the input reads as it did. -/
def batchWritesSpec : ChangeSpec := { name := "batchWrites", fn := fun _ => fun
  | [d] => { results := [.lit (.bool true)], args := [d] }
  | _ => none }
def batchWritesRow : OpenClaim := { program := "ytdiccicokbbcoaa", sum := "f52801d4d97ac168ecbae42e4ade12d0587b3b969f66845d2a43b52f63c07fe1", func := "watermeet/watermeetlaw04.BatchWrites", spec := "batchWrites", unfollowed := true, recurses := true, apart := false }
def BatchWritesSaid : Prop := batchWritesRow.holds Try.pinned (OpenSpec.ofChange batchWritesSpec)

/-- ITS FALSE NEIGHBOUR: 'it returns false'. Refute it at one input. -/
def batchWritesWrong : ChangeSpec := { name := "batchWrites", fn := fun _ => fun
  | [d] => { results := [.lit (.bool false)], args := [d] }
  | _ => none }
def BatchWritesWrongFalsely : Prop := batchWritesRow.holds Try.pinned (OpenSpec.ofChange batchWritesWrong)

/-- 'watermeetlaw04.BatchChecks': WHATEVER THE INPUT: true; the input reads as it did. -/
def batchChecksSpec : ChangeSpec := { name := "batchChecks", fn := fun _ => fun
  | [d] => { results := [.lit (.bool true)], args := [d] }
  | _ => none }
def batchChecksRow : OpenClaim := { program := "ytdiccicokbbcoaa", sum := "f52801d4d97ac168ecbae42e4ade12d0587b3b969f66845d2a43b52f63c07fe1", func := "watermeet/watermeetlaw04.BatchChecks", spec := "batchChecks", unfollowed := true, recurses := true, apart := false }
def BatchChecksSaid : Prop := batchChecksRow.holds Try.pinned (OpenSpec.ofChange batchChecksSpec)

/-- ITS FALSE NEIGHBOUR: 'it returns false'. Refute it at one input. -/
def batchChecksWrong : ChangeSpec := { name := "batchChecks", fn := fun _ => fun
  | [d] => { results := [.lit (.bool false)], args := [d] }
  | _ => none }
def BatchChecksWrongFalsely : Prop := batchChecksRow.holds Try.pinned (OpenSpec.ofChange batchChecksWrong)

/-- 'watermeetlaw04.BatchMoves': WHATEVER THE INPUT: true; the input reads as it did. -/
def batchMovesSpec : ChangeSpec := { name := "batchMoves", fn := fun _ => fun
  | [d1, d2, d3] => { results := [.lit (.bool true)], args := [d1, d2, d3] }
  | _ => none }
def batchMovesRow : OpenClaim := { program := "ytdiccicokbbcoaa", sum := "f52801d4d97ac168ecbae42e4ade12d0587b3b969f66845d2a43b52f63c07fe1", func := "watermeet/watermeetlaw04.BatchMoves", spec := "batchMoves", unfollowed := true, recurses := true, apart := false }
def BatchMovesSaid : Prop := batchMovesRow.holds Try.pinned (OpenSpec.ofChange batchMovesSpec)

/-- ITS FALSE NEIGHBOUR: 'it returns false'. Refute it at one input. -/
def batchMovesWrong : ChangeSpec := { name := "batchMoves", fn := fun _ => fun
  | [d1, d2, d3] => { results := [.lit (.bool false)], args := [d1, d2, d3] }
  | _ => none }
def BatchMovesWrongFalsely : Prop := batchMovesRow.holds Try.pinned (OpenSpec.ofChange batchMovesWrong)

/-- 'watermeetlaw04.BatchThere': WHATEVER THE INPUT: true; the input reads as it did. -/
def batchThereSpec : ChangeSpec := { name := "batchThere", fn := fun _ => fun
  | [d1, d2] => { results := [.lit (.bool true)], args := [d1, d2] }
  | _ => none }
def batchThereRow : OpenClaim := { program := "ytdiccicokbbcoaa", sum := "f52801d4d97ac168ecbae42e4ade12d0587b3b969f66845d2a43b52f63c07fe1", func := "watermeet/watermeetlaw04.BatchThere", spec := "batchThere", unfollowed := true, recurses := true, apart := false }
def BatchThereSaid : Prop := batchThereRow.holds Try.pinned (OpenSpec.ofChange batchThereSpec)

/-- ITS FALSE NEIGHBOUR: 'it returns false'. Refute it at one input. -/
def batchThereWrong : ChangeSpec := { name := "batchThere", fn := fun _ => fun
  | [d1, d2] => { results := [.lit (.bool false)], args := [d1, d2] }
  | _ => none }
def BatchThereWrongFalsely : Prop := batchThereRow.holds Try.pinned (OpenSpec.ofChange batchThereWrong)

/-- 'watermeetlaw04.BatchReads': WHATEVER THE INPUT: true; the input reads as it did. -/
def batchReadsSpec : ChangeSpec := { name := "batchReads", fn := fun _ => fun
  | [d1, d2] => { results := [.lit (.bool true)], args := [d1, d2] }
  | _ => none }
def batchReadsRow : OpenClaim := { program := "ytdiccicokbbcoaa", sum := "f52801d4d97ac168ecbae42e4ade12d0587b3b969f66845d2a43b52f63c07fe1", func := "watermeet/watermeetlaw04.BatchReads", spec := "batchReads", unfollowed := true, recurses := true, apart := false }
def BatchReadsSaid : Prop := batchReadsRow.holds Try.pinned (OpenSpec.ofChange batchReadsSpec)

/-- ITS FALSE NEIGHBOUR: 'it returns false'. Refute it at one input. -/
def batchReadsWrong : ChangeSpec := { name := "batchReads", fn := fun _ => fun
  | [d1, d2] => { results := [.lit (.bool false)], args := [d1, d2] }
  | _ => none }
def BatchReadsWrongFalsely : Prop := batchReadsRow.holds Try.pinned (OpenSpec.ofChange batchReadsWrong)

/-- 'watermeetlaw04.BatchBack': WHATEVER THE INPUT: true; the input reads as it did. -/
def batchBackSpec : ChangeSpec := { name := "batchBack", fn := fun _ => fun
  | [d1, d2, d3] => { results := [.lit (.bool true)], args := [d1, d2, d3] }
  | _ => none }
def batchBackRow : OpenClaim := { program := "ytdiccicokbbcoaa", sum := "f52801d4d97ac168ecbae42e4ade12d0587b3b969f66845d2a43b52f63c07fe1", func := "watermeet/watermeetlaw04.BatchBack", spec := "batchBack", unfollowed := true, recurses := true, apart := false }
def BatchBackSaid : Prop := batchBackRow.holds Try.pinned (OpenSpec.ofChange batchBackSpec)

/-- ITS FALSE NEIGHBOUR: 'it returns false'. Refute it at one input. -/
def batchBackWrong : ChangeSpec := { name := "batchBack", fn := fun _ => fun
  | [d1, d2, d3] => { results := [.lit (.bool false)], args := [d1, d2, d3] }
  | _ => none }
def BatchBackWrongFalsely : Prop := batchBackRow.holds Try.pinned (OpenSpec.ofChange batchBackWrong)

/-- 'watermeetlaw04.BatchOne': WHATEVER THE INPUT: true; the input reads as it did. -/
def batchOneSpec : ChangeSpec := { name := "batchOne", fn := fun _ => fun
  | [d1, d2] => { results := [.lit (.bool true)], args := [d1, d2] }
  | _ => none }
def batchOneRow : OpenClaim := { program := "ytdiccicokbbcoaa", sum := "f52801d4d97ac168ecbae42e4ade12d0587b3b969f66845d2a43b52f63c07fe1", func := "watermeet/watermeetlaw04.BatchOne", spec := "batchOne", unfollowed := true, recurses := true, apart := false }
def BatchOneSaid : Prop := batchOneRow.holds Try.pinned (OpenSpec.ofChange batchOneSpec)

/-- ITS FALSE NEIGHBOUR: 'it returns false'. Refute it at one input. -/
def batchOneWrong : ChangeSpec := { name := "batchOne", fn := fun _ => fun
  | [d1, d2] => { results := [.lit (.bool false)], args := [d1, d2] }
  | _ => none }
def BatchOneWrongFalsely : Prop := batchOneRow.holds Try.pinned (OpenSpec.ofChange batchOneWrong)

/-- 'watermeetlaw04.BatchSpoilt': WHATEVER THE INPUT: true; the input reads as it did. -/
def batchSpoiltSpec : ChangeSpec := { name := "batchSpoilt", fn := fun _ => fun
  | [d1, d2, d3, d4] => { results := [.lit (.bool true)], args := [d1, d2, d3, d4] }
  | _ => none }
def batchSpoiltRow : OpenClaim := { program := "ytdiccicokbbcoaa", sum := "f52801d4d97ac168ecbae42e4ade12d0587b3b969f66845d2a43b52f63c07fe1", func := "watermeet/watermeetlaw04.BatchSpoilt", spec := "batchSpoilt", unfollowed := true, recurses := true, apart := false }
def BatchSpoiltSaid : Prop := batchSpoiltRow.holds Try.pinned (OpenSpec.ofChange batchSpoiltSpec)

/-- ITS FALSE NEIGHBOUR: 'it returns false'. Refute it at one input. -/
def batchSpoiltWrong : ChangeSpec := { name := "batchSpoilt", fn := fun _ => fun
  | [d1, d2, d3, d4] => { results := [.lit (.bool false)], args := [d1, d2, d3, d4] }
  | _ => none }
def BatchSpoiltWrongFalsely : Prop := batchSpoiltRow.holds Try.pinned (OpenSpec.ofChange batchSpoiltWrong)

/-- 'watermeetlaw04.BatchRow': WHATEVER THE INPUT: true; the input reads as it did. -/
def batchRowSpec : ChangeSpec := { name := "batchRow", fn := fun _ => fun
  | [d] => { results := [.lit (.bool true)], args := [d] }
  | _ => none }
def batchRowRow : OpenClaim := { program := "ytdiccicokbbcoaa", sum := "f52801d4d97ac168ecbae42e4ade12d0587b3b969f66845d2a43b52f63c07fe1", func := "watermeet/watermeetlaw04.BatchRow", spec := "batchRow", unfollowed := true, recurses := true, apart := false }
def BatchRowSaid : Prop := batchRowRow.holds Try.pinned (OpenSpec.ofChange batchRowSpec)

/-- ITS FALSE NEIGHBOUR: 'it returns false'. Refute it at one input. -/
def batchRowWrong : ChangeSpec := { name := "batchRow", fn := fun _ => fun
  | [d] => { results := [.lit (.bool false)], args := [d] }
  | _ => none }
def BatchRowWrongFalsely : Prop := batchRowRow.holds Try.pinned (OpenSpec.ofChange batchRowWrong)

/- THE SECOND FORM. 'bulk': how many values and letters a reading holds, each counted each time it is reached (what is shared counts as often as it is met; a slice's spare places count too). A statement '..UptoSaid' is the law's where the arguments, and the package variables that the reading takes, are together of bulk at most 1048576: NARROWER than '..Said'. Prove '..Said' where nothing that the law and all that it calls make is longer than what came in: it says more and counts as full. Else prove '..UptoSaid'. A law counts once. -/
mutual
def uptoBulk {H : Type} : DataW H → Nat
  | .lit (.string bytes) => bytes.length + 1
  | .lit _ => 1
  | .nil => 1
  | .ptr d => uptoBulk d + 1
  | .slice elems spare => uptoBulkAll elems + uptoBulkAll spare + 1
  | .agg parts => uptoBulkAll parts + 1
  | .iface _ d => uptoBulk d + 1
  | .map entries => uptoBulkEntries entries + 1
  | .held _ => 1
def uptoBulkAll {H : Type} : List (DataW H) → Nat
  | [] => 0
  | d :: r => uptoBulk d + uptoBulkAll r
def uptoBulkEntries {H : Type} : List (Lit × DataW H) → Nat
  | [] => 0
  | x :: r => uptoBulkEntry x + uptoBulkEntries r
def uptoBulkEntry {H : Type} : Lit × DataW H → Nat
  | (.string bytes, d) => bytes.length + uptoBulk d + 1
  | (_, d) => uptoBulk d + 1
 end
def uptoSmall : (H : Type) → List (DataW H) → Bool := fun _ ds => decide (uptoBulkAll ds ≤ 1048576)
def OpenSpec.upto (s : _root_.Go.ChangeSpec) : _root_.Go.OpenSpec := { _root_.Go.OpenSpec.ofChange s with cond := some uptoSmall }

/-- 'watermeetlaw04.BatchWrites', WHERE WHAT IT READS IS OF BULK AT MOST 1048576: true; the input reads as it did. -/
def batchWritesUptoRow : OpenClaim := { program := "ytdiccicokbbcoaa", sum := "f52801d4d97ac168ecbae42e4ade12d0587b3b969f66845d2a43b52f63c07fe1", func := "watermeet/watermeetlaw04.BatchWrites", spec := "batchWrites", unfollowed := true, recurses := true, apart := false, narrowed := true }
def BatchWritesUptoSaid : Prop := batchWritesUptoRow.holds Try.pinned (OpenSpec.upto batchWritesSpec)

/-- 'watermeetlaw04.BatchChecks', WHERE WHAT IT READS IS OF BULK AT MOST 1048576: true; the input reads as it did. -/
def batchChecksUptoRow : OpenClaim := { program := "ytdiccicokbbcoaa", sum := "f52801d4d97ac168ecbae42e4ade12d0587b3b969f66845d2a43b52f63c07fe1", func := "watermeet/watermeetlaw04.BatchChecks", spec := "batchChecks", unfollowed := true, recurses := true, apart := false, narrowed := true }
def BatchChecksUptoSaid : Prop := batchChecksUptoRow.holds Try.pinned (OpenSpec.upto batchChecksSpec)

/-- 'watermeetlaw04.BatchMoves', WHERE WHAT IT READS IS OF BULK AT MOST 1048576: true; the input reads as it did. -/
def batchMovesUptoRow : OpenClaim := { program := "ytdiccicokbbcoaa", sum := "f52801d4d97ac168ecbae42e4ade12d0587b3b969f66845d2a43b52f63c07fe1", func := "watermeet/watermeetlaw04.BatchMoves", spec := "batchMoves", unfollowed := true, recurses := true, apart := false, narrowed := true }
def BatchMovesUptoSaid : Prop := batchMovesUptoRow.holds Try.pinned (OpenSpec.upto batchMovesSpec)

/-- 'watermeetlaw04.BatchThere', WHERE WHAT IT READS IS OF BULK AT MOST 1048576: true; the input reads as it did. -/
def batchThereUptoRow : OpenClaim := { program := "ytdiccicokbbcoaa", sum := "f52801d4d97ac168ecbae42e4ade12d0587b3b969f66845d2a43b52f63c07fe1", func := "watermeet/watermeetlaw04.BatchThere", spec := "batchThere", unfollowed := true, recurses := true, apart := false, narrowed := true }
def BatchThereUptoSaid : Prop := batchThereUptoRow.holds Try.pinned (OpenSpec.upto batchThereSpec)

/-- 'watermeetlaw04.BatchReads', WHERE WHAT IT READS IS OF BULK AT MOST 1048576: true; the input reads as it did. -/
def batchReadsUptoRow : OpenClaim := { program := "ytdiccicokbbcoaa", sum := "f52801d4d97ac168ecbae42e4ade12d0587b3b969f66845d2a43b52f63c07fe1", func := "watermeet/watermeetlaw04.BatchReads", spec := "batchReads", unfollowed := true, recurses := true, apart := false, narrowed := true }
def BatchReadsUptoSaid : Prop := batchReadsUptoRow.holds Try.pinned (OpenSpec.upto batchReadsSpec)

/-- 'watermeetlaw04.BatchBack', WHERE WHAT IT READS IS OF BULK AT MOST 1048576: true; the input reads as it did. -/
def batchBackUptoRow : OpenClaim := { program := "ytdiccicokbbcoaa", sum := "f52801d4d97ac168ecbae42e4ade12d0587b3b969f66845d2a43b52f63c07fe1", func := "watermeet/watermeetlaw04.BatchBack", spec := "batchBack", unfollowed := true, recurses := true, apart := false, narrowed := true }
def BatchBackUptoSaid : Prop := batchBackUptoRow.holds Try.pinned (OpenSpec.upto batchBackSpec)

/-- 'watermeetlaw04.BatchOne', WHERE WHAT IT READS IS OF BULK AT MOST 1048576: true; the input reads as it did. -/
def batchOneUptoRow : OpenClaim := { program := "ytdiccicokbbcoaa", sum := "f52801d4d97ac168ecbae42e4ade12d0587b3b969f66845d2a43b52f63c07fe1", func := "watermeet/watermeetlaw04.BatchOne", spec := "batchOne", unfollowed := true, recurses := true, apart := false, narrowed := true }
def BatchOneUptoSaid : Prop := batchOneUptoRow.holds Try.pinned (OpenSpec.upto batchOneSpec)

/-- 'watermeetlaw04.BatchSpoilt', WHERE WHAT IT READS IS OF BULK AT MOST 1048576: true; the input reads as it did. -/
def batchSpoiltUptoRow : OpenClaim := { program := "ytdiccicokbbcoaa", sum := "f52801d4d97ac168ecbae42e4ade12d0587b3b969f66845d2a43b52f63c07fe1", func := "watermeet/watermeetlaw04.BatchSpoilt", spec := "batchSpoilt", unfollowed := true, recurses := true, apart := false, narrowed := true }
def BatchSpoiltUptoSaid : Prop := batchSpoiltUptoRow.holds Try.pinned (OpenSpec.upto batchSpoiltSpec)

/-- 'watermeetlaw04.BatchRow', WHERE WHAT IT READS IS OF BULK AT MOST 1048576: true; the input reads as it did. -/
def batchRowUptoRow : OpenClaim := { program := "ytdiccicokbbcoaa", sum := "f52801d4d97ac168ecbae42e4ade12d0587b3b969f66845d2a43b52f63c07fe1", func := "watermeet/watermeetlaw04.BatchRow", spec := "batchRow", unfollowed := true, recurses := true, apart := false, narrowed := true }
def BatchRowUptoSaid : Prop := batchRowUptoRow.holds Try.pinned (OpenSpec.upto batchRowSpec)

end Rows
end Go.Proofs.Ytdiccicokbbcoaa

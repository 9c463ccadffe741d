/-
  No cell of these rows narrows 'for every input' (looked for: loops, veiled, ifaces, maps, wideKeys, modest, calm, conditions, laid).
  DERIVED. THE GIVEN ROWS OF THIS SEAT. 8 by the template 'for every input the law returns true; each argument reads behind the call as it read before'; 0 by the template 'total and deterministic' (their statements: YtedljandnpigpaaTotals.lean).
  GIVEN WITH THE SEED: the statements are not yours to turn. If you find one false, say at which input.
  Laid BY PROGRAM, IN A SANDBOX (cutbox-rows.mjs): the forced cells as the released guide's own fill.sh prints them over the translation 6800b8ae68ae7b1a… (all of the seat's roots in one cut). By AI agents, Wed Nov 11 2026. No macro, syntax, notation, axiom, sorry.
-/
import Derived.Test.YtedljandnpigpaaChecked
import GoSem.Claim
import GoSem.ClaimJoined
import GoSem.ClaimMapViews
import Derived.JoinedTies
import Derived.KernelRfl
namespace Go.Proofs.Ytedljandnpigpaa
/- THE CELL 'sum', in the pinned program and in every row, IS THE sha256 OF THE DUMP (.gsa) THAT YtedljandnpigpaaProg.lean LOADS. Nothing in Lean hashes anything: it is a label: what it is worth is what the hold of that sum in a sandbox is worth. -/
noncomputable def Try.pinned : Pinned := { name := "ytedljandnpigpaa", sum := "6800b8ae68ae7b1a77bb76582607f7eeed21c2da642ed52e5286825b5f03e1c2", checked := Try.checked }
namespace Rows
def none {H : Type} : Left H := { results := [], args := [] }

/-- 'watermeetlaw08.IndexMakes': WHATEVER THE INPUT: true; the input reads as it did. -/
def indexMakesSpec : ChangeSpec := { name := "indexMakes", fn := fun _ => fun
  | [d1, d2, d3] => { results := [.lit (.bool true)], args := [d1, d2, d3] }
  | _ => none }
def indexMakesRow : OpenClaim := { program := "ytedljandnpigpaa", sum := "6800b8ae68ae7b1a77bb76582607f7eeed21c2da642ed52e5286825b5f03e1c2", func := "watermeet/watermeetlaw08.IndexMakes", spec := "indexMakes", unfollowed := true, recurses := true, apart := false }
def IndexMakesSaid : Prop := indexMakesRow.holds Try.pinned (OpenSpec.ofChange indexMakesSpec)

/-- ITS FALSE NEIGHBOUR: 'it returns false'. Refute it at one input. -/
def indexMakesWrong : ChangeSpec := { name := "indexMakes", fn := fun _ => fun
  | [d1, d2, d3] => { results := [.lit (.bool false)], args := [d1, d2, d3] }
  | _ => none }
def IndexMakesWrongFalsely : Prop := indexMakesRow.holds Try.pinned (OpenSpec.ofChange indexMakesWrong)

/-- 'watermeetlaw08.IndexPlaces': WHATEVER THE INPUT: true; the input reads as it did. -/
def indexPlacesSpec : ChangeSpec := { name := "indexPlaces", fn := fun _ => fun
  | [d1, d2, d3] => { results := [.lit (.bool true)], args := [d1, d2, d3] }
  | _ => none }
def indexPlacesRow : OpenClaim := { program := "ytedljandnpigpaa", sum := "6800b8ae68ae7b1a77bb76582607f7eeed21c2da642ed52e5286825b5f03e1c2", func := "watermeet/watermeetlaw08.IndexPlaces", spec := "indexPlaces", unfollowed := true, recurses := true, apart := false }
def IndexPlacesSaid : Prop := indexPlacesRow.holds Try.pinned (OpenSpec.ofChange indexPlacesSpec)

/-- ITS FALSE NEIGHBOUR: 'it returns false'. Refute it at one input. -/
def indexPlacesWrong : ChangeSpec := { name := "indexPlaces", fn := fun _ => fun
  | [d1, d2, d3] => { results := [.lit (.bool false)], args := [d1, d2, d3] }
  | _ => none }
def IndexPlacesWrongFalsely : Prop := indexPlacesRow.holds Try.pinned (OpenSpec.ofChange indexPlacesWrong)

/-- 'watermeetlaw08.IndexFinds': WHATEVER THE INPUT: true; the input reads as it did. -/
def indexFindsSpec : ChangeSpec := { name := "indexFinds", fn := fun _ => fun
  | [d1, d2, d3, d4] => { results := [.lit (.bool true)], args := [d1, d2, d3, d4] }
  | _ => none }
def indexFindsRow : OpenClaim := { program := "ytedljandnpigpaa", sum := "6800b8ae68ae7b1a77bb76582607f7eeed21c2da642ed52e5286825b5f03e1c2", func := "watermeet/watermeetlaw08.IndexFinds", spec := "indexFinds", unfollowed := true, recurses := true, apart := false }
def IndexFindsSaid : Prop := indexFindsRow.holds Try.pinned (OpenSpec.ofChange indexFindsSpec)

/-- ITS FALSE NEIGHBOUR: 'it returns false'. Refute it at one input. -/
def indexFindsWrong : ChangeSpec := { name := "indexFinds", fn := fun _ => fun
  | [d1, d2, d3, d4] => { results := [.lit (.bool false)], args := [d1, d2, d3, d4] }
  | _ => none }
def IndexFindsWrongFalsely : Prop := indexFindsRow.holds Try.pinned (OpenSpec.ofChange indexFindsWrong)

/-- 'watermeetlaw08.IndexNever': WHATEVER THE INPUT: true; the input reads as it did. -/
def indexNeverSpec : ChangeSpec := { name := "indexNever", fn := fun _ => fun
  | [d1, d2, d3, d4] => { results := [.lit (.bool true)], args := [d1, d2, d3, d4] }
  | _ => none }
def indexNeverRow : OpenClaim := { program := "ytedljandnpigpaa", sum := "6800b8ae68ae7b1a77bb76582607f7eeed21c2da642ed52e5286825b5f03e1c2", func := "watermeet/watermeetlaw08.IndexNever", spec := "indexNever", unfollowed := true, recurses := true, apart := false }
def IndexNeverSaid : Prop := indexNeverRow.holds Try.pinned (OpenSpec.ofChange indexNeverSpec)

/-- ITS FALSE NEIGHBOUR: 'it returns false'. Refute it at one input. -/
def indexNeverWrong : ChangeSpec := { name := "indexNever", fn := fun _ => fun
  | [d1, d2, d3, d4] => { results := [.lit (.bool false)], args := [d1, d2, d3, d4] }
  | _ => none }
def IndexNeverWrongFalsely : Prop := indexNeverRow.holds Try.pinned (OpenSpec.ofChange indexNeverWrong)

/-- 'watermeetlaw08.IndexSpares': WHATEVER THE INPUT: true; the input reads as it did. -/
def indexSparesSpec : ChangeSpec := { name := "indexSpares", fn := fun _ => fun
  | [d1, d2] => { results := [.lit (.bool true)], args := [d1, d2] }
  | _ => none }
def indexSparesRow : OpenClaim := { program := "ytedljandnpigpaa", sum := "6800b8ae68ae7b1a77bb76582607f7eeed21c2da642ed52e5286825b5f03e1c2", func := "watermeet/watermeetlaw08.IndexSpares", spec := "indexSpares", unfollowed := true, recurses := true, apart := false }
def IndexSparesSaid : Prop := indexSparesRow.holds Try.pinned (OpenSpec.ofChange indexSparesSpec)

/-- ITS FALSE NEIGHBOUR: 'it returns false'. Refute it at one input. -/
def indexSparesWrong : ChangeSpec := { name := "indexSpares", fn := fun _ => fun
  | [d1, d2] => { results := [.lit (.bool false)], args := [d1, d2] }
  | _ => none }
def IndexSparesWrongFalsely : Prop := indexSparesRow.holds Try.pinned (OpenSpec.ofChange indexSparesWrong)

/-- 'watermeetlaw08.IndexGrows': WHATEVER THE INPUT: true; the input reads as it did. -/
def indexGrowsSpec : ChangeSpec := { name := "indexGrows", fn := fun _ => fun
  | [d1, d2, d3] => { results := [.lit (.bool true)], args := [d1, d2, d3] }
  | _ => none }
def indexGrowsRow : OpenClaim := { program := "ytedljandnpigpaa", sum := "6800b8ae68ae7b1a77bb76582607f7eeed21c2da642ed52e5286825b5f03e1c2", func := "watermeet/watermeetlaw08.IndexGrows", spec := "indexGrows", unfollowed := true, recurses := true, apart := false }
def IndexGrowsSaid : Prop := indexGrowsRow.holds Try.pinned (OpenSpec.ofChange indexGrowsSpec)

/-- ITS FALSE NEIGHBOUR: 'it returns false'. Refute it at one input. -/
def indexGrowsWrong : ChangeSpec := { name := "indexGrows", fn := fun _ => fun
  | [d1, d2, d3] => { results := [.lit (.bool false)], args := [d1, d2, d3] }
  | _ => none }
def IndexGrowsWrongFalsely : Prop := indexGrowsRow.holds Try.pinned (OpenSpec.ofChange indexGrowsWrong)

/-- 'watermeetlaw08.IndexLeaves': WHATEVER THE INPUT: true; the input reads as it did. -/
def indexLeavesSpec : ChangeSpec := { name := "indexLeaves", fn := fun _ => fun
  | [d1, d2, d3, d4, d5] => { results := [.lit (.bool true)], args := [d1, d2, d3, d4, d5] }
  | _ => none }
def indexLeavesRow : OpenClaim := { program := "ytedljandnpigpaa", sum := "6800b8ae68ae7b1a77bb76582607f7eeed21c2da642ed52e5286825b5f03e1c2", func := "watermeet/watermeetlaw08.IndexLeaves", spec := "indexLeaves", unfollowed := true, recurses := true, apart := false }
def IndexLeavesSaid : Prop := indexLeavesRow.holds Try.pinned (OpenSpec.ofChange indexLeavesSpec)

/-- ITS FALSE NEIGHBOUR: 'it returns false'. Refute it at one input. -/
def indexLeavesWrong : ChangeSpec := { name := "indexLeaves", fn := fun _ => fun
  | [d1, d2, d3, d4, d5] => { results := [.lit (.bool false)], args := [d1, d2, d3, d4, d5] }
  | _ => none }
def IndexLeavesWrongFalsely : Prop := indexLeavesRow.holds Try.pinned (OpenSpec.ofChange indexLeavesWrong)

/-- 'watermeetlaw08.IndexWhole': WHATEVER THE INPUT: true; the input reads as it did. -/
def indexWholeSpec : ChangeSpec := { name := "indexWhole", fn := fun _ => fun
  | [d1, d2, d3, d4] => { results := [.lit (.bool true)], args := [d1, d2, d3, d4] }
  | _ => none }
def indexWholeRow : OpenClaim := { program := "ytedljandnpigpaa", sum := "6800b8ae68ae7b1a77bb76582607f7eeed21c2da642ed52e5286825b5f03e1c2", func := "watermeet/watermeetlaw08.IndexWhole", spec := "indexWhole", unfollowed := true, recurses := true, apart := false }
def IndexWholeSaid : Prop := indexWholeRow.holds Try.pinned (OpenSpec.ofChange indexWholeSpec)

/-- ITS FALSE NEIGHBOUR: 'it returns false'. Refute it at one input. -/
def indexWholeWrong : ChangeSpec := { name := "indexWhole", fn := fun _ => fun
  | [d1, d2, d3, d4] => { results := [.lit (.bool false)], args := [d1, d2, d3, d4] }
  | _ => none }
def IndexWholeWrongFalsely : Prop := indexWholeRow.holds Try.pinned (OpenSpec.ofChange indexWholeWrong)

/- THE SECOND FORM. 'bulk': how many values and letters a reading holds, each counted each time it is reached (what is shared counts as often as it is met; a slice's spare places count too). A statement '..UptoSaid' is the law's where the arguments, and the package variables that the reading takes, are together of bulk at most 1048576: NARROWER than '..Said'. Prove '..Said' where nothing that the law and all that it calls make is longer than what came in: it says more and counts as full. Else prove '..UptoSaid'. A law counts once. -/
mutual
def uptoBulk {H : Type} : DataW H → Nat
  | .lit (.string bytes) => bytes.length + 1
  | .lit _ => 1
  | .nil => 1
  | .ptr d => uptoBulk d + 1
  | .slice elems spare => uptoBulkAll elems + uptoBulkAll spare + 1
  | .agg parts => uptoBulkAll parts + 1
  | .iface _ d => uptoBulk d + 1
  | .map entries => uptoBulkEntries entries + 1
  | .held _ => 1
def uptoBulkAll {H : Type} : List (DataW H) → Nat
  | [] => 0
  | d :: r => uptoBulk d + uptoBulkAll r
def uptoBulkEntries {H : Type} : List (Lit × DataW H) → Nat
  | [] => 0
  | x :: r => uptoBulkEntry x + uptoBulkEntries r
def uptoBulkEntry {H : Type} : Lit × DataW H → Nat
  | (.string bytes, d) => bytes.length + uptoBulk d + 1
  | (_, d) => uptoBulk d + 1
 end
def uptoSmall : (H : Type) → List (DataW H) → Bool := fun _ ds => decide (uptoBulkAll ds ≤ 1048576)
def OpenSpec.upto (s : _root_.Go.ChangeSpec) : _root_.Go.OpenSpec := { _root_.Go.OpenSpec.ofChange s with cond := some uptoSmall }

/-- 'watermeetlaw08.IndexMakes', WHERE WHAT IT READS IS OF BULK AT MOST 1048576: true; the input reads as it did. -/
def indexMakesUptoRow : OpenClaim := { program := "ytedljandnpigpaa", sum := "6800b8ae68ae7b1a77bb76582607f7eeed21c2da642ed52e5286825b5f03e1c2", func := "watermeet/watermeetlaw08.IndexMakes", spec := "indexMakes", unfollowed := true, recurses := true, apart := false, narrowed := true }
def IndexMakesUptoSaid : Prop := indexMakesUptoRow.holds Try.pinned (OpenSpec.upto indexMakesSpec)

/-- 'watermeetlaw08.IndexPlaces', WHERE WHAT IT READS IS OF BULK AT MOST 1048576: true; the input reads as it did. -/
def indexPlacesUptoRow : OpenClaim := { program := "ytedljandnpigpaa", sum := "6800b8ae68ae7b1a77bb76582607f7eeed21c2da642ed52e5286825b5f03e1c2", func := "watermeet/watermeetlaw08.IndexPlaces", spec := "indexPlaces", unfollowed := true, recurses := true, apart := false, narrowed := true }
def IndexPlacesUptoSaid : Prop := indexPlacesUptoRow.holds Try.pinned (OpenSpec.upto indexPlacesSpec)

/-- 'watermeetlaw08.IndexFinds', WHERE WHAT IT READS IS OF BULK AT MOST 1048576: true; the input reads as it did. -/
def indexFindsUptoRow : OpenClaim := { program := "ytedljandnpigpaa", sum := "6800b8ae68ae7b1a77bb76582607f7eeed21c2da642ed52e5286825b5f03e1c2", func := "watermeet/watermeetlaw08.IndexFinds", spec := "indexFinds", unfollowed := true, recurses := true, apart := false, narrowed := true }
def IndexFindsUptoSaid : Prop := indexFindsUptoRow.holds Try.pinned (OpenSpec.upto indexFindsSpec)

/-- 'watermeetlaw08.IndexNever', WHERE WHAT IT READS IS OF BULK AT MOST 1048576: true; the input reads as it did. -/
def indexNeverUptoRow : OpenClaim := { program := "ytedljandnpigpaa", sum := "6800b8ae68ae7b1a77bb76582607f7eeed21c2da642ed52e5286825b5f03e1c2", func := "watermeet/watermeetlaw08.IndexNever", spec := "indexNever", unfollowed := true, recurses := true, apart := false, narrowed := true }
def IndexNeverUptoSaid : Prop := indexNeverUptoRow.holds Try.pinned (OpenSpec.upto indexNeverSpec)

/-- 'watermeetlaw08.IndexSpares', WHERE WHAT IT READS IS OF BULK AT MOST 1048576: true; the input reads as it did. -/
def indexSparesUptoRow : OpenClaim := { program := "ytedljandnpigpaa", sum := "6800b8ae68ae7b1a77bb76582607f7eeed21c2da642ed52e5286825b5f03e1c2", func := "watermeet/watermeetlaw08.IndexSpares", spec := "indexSpares", unfollowed := true, recurses := true, apart := false, narrowed := true }
def IndexSparesUptoSaid : Prop := indexSparesUptoRow.holds Try.pinned (OpenSpec.upto indexSparesSpec)

/-- 'watermeetlaw08.IndexGrows', WHERE WHAT IT READS IS OF BULK AT MOST 1048576: true; the input reads as it did. -/
def indexGrowsUptoRow : OpenClaim := { program := "ytedljandnpigpaa", sum := "6800b8ae68ae7b1a77bb76582607f7eeed21c2da642ed52e5286825b5f03e1c2", func := "watermeet/watermeetlaw08.IndexGrows", spec := "indexGrows", unfollowed := true, recurses := true, apart := false, narrowed := true }
def IndexGrowsUptoSaid : Prop := indexGrowsUptoRow.holds Try.pinned (OpenSpec.upto indexGrowsSpec)

/-- 'watermeetlaw08.IndexLeaves', WHERE WHAT IT READS IS OF BULK AT MOST 1048576: true; the input reads as it did. -/
def indexLeavesUptoRow : OpenClaim := { program := "ytedljandnpigpaa", sum := "6800b8ae68ae7b1a77bb76582607f7eeed21c2da642ed52e5286825b5f03e1c2", func := "watermeet/watermeetlaw08.IndexLeaves", spec := "indexLeaves", unfollowed := true, recurses := true, apart := false, narrowed := true }
def IndexLeavesUptoSaid : Prop := indexLeavesUptoRow.holds Try.pinned (OpenSpec.upto indexLeavesSpec)

/-- 'watermeetlaw08.IndexWhole', WHERE WHAT IT READS IS OF BULK AT MOST 1048576: true; the input reads as it did. -/
def indexWholeUptoRow : OpenClaim := { program := "ytedljandnpigpaa", sum := "6800b8ae68ae7b1a77bb76582607f7eeed21c2da642ed52e5286825b5f03e1c2", func := "watermeet/watermeetlaw08.IndexWhole", spec := "indexWhole", unfollowed := true, recurses := true, apart := false, narrowed := true }
def IndexWholeUptoSaid : Prop := indexWholeUptoRow.holds Try.pinned (OpenSpec.upto indexWholeSpec)

end Rows
end Go.Proofs.Ytedljandnpigpaa

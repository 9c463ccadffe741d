/-
  No cell of these rows narrows 'for every input' (looked for: loops, veiled, ifaces, maps, wideKeys, modest, calm, conditions, laid).
  DERIVED. THE GIVEN ROWS OF THIS SEAT. 8 by the template 'for every input the law returns true; each argument reads behind the call as it read before'; 0 by the template 'total and deterministic' (their statements: YtpmofpekcbghnaaGreatTotals.lean).
  GIVEN WITH THE SEED: the statements are not yours to turn. If you find one false, say at which input.
  Laid BY PROGRAM, IN A SANDBOX (cutbox-rows.mjs): the forced cells as the released guide's own fill.sh prints them over the translation 0f52c24849eab9e4… (all of the seat's roots in one cut). By AI agents, Wed Nov 11 2026. No macro, syntax, notation, axiom, sorry.
-/
import Derived.Test.YtpmofpekcbghnaaGreatChecked
import GoSem.Claim
import GoSem.ClaimJoined
import GoSem.ClaimMapViews
import Derived.JoinedTies
import Derived.KernelRfl
namespace Go.Proofs.YtpmofpekcbghnaaGreat
/- THE CELL 'sum', in the pinned program and in every row, IS THE sha256 OF THE DUMP (.gsa) THAT YtpmofpekcbghnaaGreatProg.lean LOADS. Nothing in Lean hashes anything: it is a label: what it is worth is what the hold of that sum in a sandbox is worth. -/
noncomputable def Tryz.pinned : Pinned := { name := "ytpmofpekcbghnaagreat", sum := "0f52c24849eab9e4d2ca951c8a9633107b67e827c50cfbad490361971906cf0a", checked := Tryz.checked }
namespace Rows
def none {H : Type} : Left H := { results := [], args := [] }

/-- 'watermeetlaw18.ReplTells': WHATEVER THE INPUT: true; the input reads as it did. -/
def replTellsSpec : ChangeSpec := { name := "replTells", fn := fun _ => fun
  | [d1, d2, d3, d4] => { results := [.lit (.bool true)], args := [d1, d2, d3, d4] }
  | _ => none }
def replTellsRow : OpenClaim := { program := "ytpmofpekcbghnaagreat", sum := "0f52c24849eab9e4d2ca951c8a9633107b67e827c50cfbad490361971906cf0a", func := "watermeet/watermeetlaw18.ReplTells", spec := "replTells", inPlace := ["slices.overlaps[int]"], unfollowed := true, recurses := true, apart := false }
def ReplTellsSaid : Prop := replTellsRow.holds Tryz.pinned (OpenSpec.ofChange replTellsSpec)

/-- ITS FALSE NEIGHBOUR: 'it returns false'. Refute it at one input. -/
def replTellsWrong : ChangeSpec := { name := "replTells", fn := fun _ => fun
  | [d1, d2, d3, d4] => { results := [.lit (.bool false)], args := [d1, d2, d3, d4] }
  | _ => none }
def ReplTellsWrongFalsely : Prop := replTellsRow.holds Tryz.pinned (OpenSpec.ofChange replTellsWrong)

/-- 'watermeetlaw18.ReplStays': WHATEVER THE INPUT: true; the input reads as it did. -/
def replStaysSpec : ChangeSpec := { name := "replStays", fn := fun _ => fun
  | [d1, d2] => { results := [.lit (.bool true)], args := [d1, d2] }
  | _ => none }
def replStaysRow : OpenClaim := { program := "ytpmofpekcbghnaagreat", sum := "0f52c24849eab9e4d2ca951c8a9633107b67e827c50cfbad490361971906cf0a", func := "watermeet/watermeetlaw18.ReplStays", spec := "replStays", inPlace := ["slices.overlaps[int]"], unfollowed := true, recurses := true, apart := false }
def ReplStaysSaid : Prop := replStaysRow.holds Tryz.pinned (OpenSpec.ofChange replStaysSpec)

/-- ITS FALSE NEIGHBOUR: 'it returns false'. Refute it at one input. -/
def replStaysWrong : ChangeSpec := { name := "replStays", fn := fun _ => fun
  | [d1, d2] => { results := [.lit (.bool false)], args := [d1, d2] }
  | _ => none }
def ReplStaysWrongFalsely : Prop := replStaysRow.holds Tryz.pinned (OpenSpec.ofChange replStaysWrong)

/-- 'watermeetlaw18.ReplHigh': WHATEVER THE INPUT: true; the input reads as it did. -/
def replHighSpec : ChangeSpec := { name := "replHigh", fn := fun _ => fun
  | [d1, d2] => { results := [.lit (.bool true)], args := [d1, d2] }
  | _ => none }
def replHighRow : OpenClaim := { program := "ytpmofpekcbghnaagreat", sum := "0f52c24849eab9e4d2ca951c8a9633107b67e827c50cfbad490361971906cf0a", func := "watermeet/watermeetlaw18.ReplHigh", spec := "replHigh", inPlace := ["slices.overlaps[int]"], unfollowed := true, recurses := true, apart := false }
def ReplHighSaid : Prop := replHighRow.holds Tryz.pinned (OpenSpec.ofChange replHighSpec)

/-- ITS FALSE NEIGHBOUR: 'it returns false'. Refute it at one input. -/
def replHighWrong : ChangeSpec := { name := "replHigh", fn := fun _ => fun
  | [d1, d2] => { results := [.lit (.bool false)], args := [d1, d2] }
  | _ => none }
def ReplHighWrongFalsely : Prop := replHighRow.holds Tryz.pinned (OpenSpec.ofChange replHighWrong)

/-- 'watermeetlaw18.ReplAppended': WHATEVER THE INPUT: true; the input reads as it did. -/
def replAppendedSpec : ChangeSpec := { name := "replAppended", fn := fun _ => fun
  | [d1, d2] => { results := [.lit (.bool true)], args := [d1, d2] }
  | _ => none }
def replAppendedRow : OpenClaim := { program := "ytpmofpekcbghnaagreat", sum := "0f52c24849eab9e4d2ca951c8a9633107b67e827c50cfbad490361971906cf0a", func := "watermeet/watermeetlaw18.ReplAppended", spec := "replAppended", inPlace := ["slices.overlaps[int]"], unfollowed := true, recurses := true, apart := false }
def ReplAppendedSaid : Prop := replAppendedRow.holds Tryz.pinned (OpenSpec.ofChange replAppendedSpec)

/-- ITS FALSE NEIGHBOUR: 'it returns false'. Refute it at one input. -/
def replAppendedWrong : ChangeSpec := { name := "replAppended", fn := fun _ => fun
  | [d1, d2] => { results := [.lit (.bool false)], args := [d1, d2] }
  | _ => none }
def ReplAppendedWrongFalsely : Prop := replAppendedRow.holds Tryz.pinned (OpenSpec.ofChange replAppendedWrong)

/-- 'watermeetlaw18.ReplFollows': WHATEVER THE INPUT: true; the input reads as it did. -/
def replFollowsSpec : ChangeSpec := { name := "replFollows", fn := fun _ => fun
  | [d1, d2, d3] => { results := [.lit (.bool true)], args := [d1, d2, d3] }
  | _ => none }
def replFollowsRow : OpenClaim := { program := "ytpmofpekcbghnaagreat", sum := "0f52c24849eab9e4d2ca951c8a9633107b67e827c50cfbad490361971906cf0a", func := "watermeet/watermeetlaw18.ReplFollows", spec := "replFollows", inPlace := ["slices.overlaps[int]"], unfollowed := true, recurses := true, apart := false }
def ReplFollowsSaid : Prop := replFollowsRow.holds Tryz.pinned (OpenSpec.ofChange replFollowsSpec)

/-- ITS FALSE NEIGHBOUR: 'it returns false'. Refute it at one input. -/
def replFollowsWrong : ChangeSpec := { name := "replFollows", fn := fun _ => fun
  | [d1, d2, d3] => { results := [.lit (.bool false)], args := [d1, d2, d3] }
  | _ => none }
def ReplFollowsWrongFalsely : Prop := replFollowsRow.holds Tryz.pinned (OpenSpec.ofChange replFollowsWrong)

/-- 'watermeetlaw18.ReplTorn': WHATEVER THE INPUT: true; the input reads as it did. -/
def replTornSpec : ChangeSpec := { name := "replTorn", fn := fun _ => fun
  | [d1, d2, d3] => { results := [.lit (.bool true)], args := [d1, d2, d3] }
  | _ => none }
def replTornRow : OpenClaim := { program := "ytpmofpekcbghnaagreat", sum := "0f52c24849eab9e4d2ca951c8a9633107b67e827c50cfbad490361971906cf0a", func := "watermeet/watermeetlaw18.ReplTorn", spec := "replTorn", inPlace := ["slices.overlaps[int]"], unfollowed := true, recurses := true, apart := false }
def ReplTornSaid : Prop := replTornRow.holds Tryz.pinned (OpenSpec.ofChange replTornSpec)

/-- ITS FALSE NEIGHBOUR: 'it returns false'. Refute it at one input. -/
def replTornWrong : ChangeSpec := { name := "replTorn", fn := fun _ => fun
  | [d1, d2, d3] => { results := [.lit (.bool false)], args := [d1, d2, d3] }
  | _ => none }
def ReplTornWrongFalsely : Prop := replTornRow.holds Tryz.pinned (OpenSpec.ofChange replTornWrong)

/-- 'watermeetlaw18.ReplElects': WHATEVER THE INPUT: true; the input reads as it did. -/
def replElectsSpec : ChangeSpec := { name := "replElects", fn := fun _ => fun
  | [d1, d2] => { results := [.lit (.bool true)], args := [d1, d2] }
  | _ => none }
def replElectsRow : OpenClaim := { program := "ytpmofpekcbghnaagreat", sum := "0f52c24849eab9e4d2ca951c8a9633107b67e827c50cfbad490361971906cf0a", func := "watermeet/watermeetlaw18.ReplElects", spec := "replElects", inPlace := ["slices.overlaps[int]"], unfollowed := true, recurses := true, apart := false }
def ReplElectsSaid : Prop := replElectsRow.holds Tryz.pinned (OpenSpec.ofChange replElectsSpec)

/-- ITS FALSE NEIGHBOUR: 'it returns false'. Refute it at one input. -/
def replElectsWrong : ChangeSpec := { name := "replElects", fn := fun _ => fun
  | [d1, d2] => { results := [.lit (.bool false)], args := [d1, d2] }
  | _ => none }
def ReplElectsWrongFalsely : Prop := replElectsRow.holds Tryz.pinned (OpenSpec.ofChange replElectsWrong)

/-- 'watermeetlaw18.ReplFalls': WHATEVER THE INPUT: true; the input reads as it did. -/
def replFallsSpec : ChangeSpec := { name := "replFalls", fn := fun _ => fun
  | [d1, d2, d3, d4] => { results := [.lit (.bool true)], args := [d1, d2, d3, d4] }
  | _ => none }
def replFallsRow : OpenClaim := { program := "ytpmofpekcbghnaagreat", sum := "0f52c24849eab9e4d2ca951c8a9633107b67e827c50cfbad490361971906cf0a", func := "watermeet/watermeetlaw18.ReplFalls", spec := "replFalls", inPlace := ["slices.overlaps[int]"], unfollowed := true, recurses := true, apart := false }
def ReplFallsSaid : Prop := replFallsRow.holds Tryz.pinned (OpenSpec.ofChange replFallsSpec)

/-- ITS FALSE NEIGHBOUR: 'it returns false'. Refute it at one input. -/
def replFallsWrong : ChangeSpec := { name := "replFalls", fn := fun _ => fun
  | [d1, d2, d3, d4] => { results := [.lit (.bool false)], args := [d1, d2, d3, d4] }
  | _ => none }
def ReplFallsWrongFalsely : Prop := replFallsRow.holds Tryz.pinned (OpenSpec.ofChange replFallsWrong)

/- THE SECOND FORM. 'bulk': how many values and letters a reading holds, each counted each time it is reached (what is shared counts as often as it is met; a slice's spare places count too). A statement '..UptoSaid' is the law's where the arguments, and the package variables that the reading takes, are together of bulk at most 1048576: NARROWER than '..Said'. Prove '..Said' where nothing that the law and all that it calls make is longer than what came in: it says more and counts as full. Else prove '..UptoSaid'. A law counts once. -/
mutual
def uptoBulk {H : Type} : DataW H → Nat
  | .lit (.string bytes) => bytes.length + 1
  | .lit _ => 1
  | .nil => 1
  | .ptr d => uptoBulk d + 1
  | .slice elems spare => uptoBulkAll elems + uptoBulkAll spare + 1
  | .agg parts => uptoBulkAll parts + 1
  | .iface _ d => uptoBulk d + 1
  | .map entries => uptoBulkEntries entries + 1
  | .held _ => 1
def uptoBulkAll {H : Type} : List (DataW H) → Nat
  | [] => 0
  | d :: r => uptoBulk d + uptoBulkAll r
def uptoBulkEntries {H : Type} : List (Lit × DataW H) → Nat
  | [] => 0
  | x :: r => uptoBulkEntry x + uptoBulkEntries r
def uptoBulkEntry {H : Type} : Lit × DataW H → Nat
  | (.string bytes, d) => bytes.length + uptoBulk d + 1
  | (_, d) => uptoBulk d + 1
 end
def uptoSmall : (H : Type) → List (DataW H) → Bool := fun _ ds => decide (uptoBulkAll ds ≤ 1048576)
def OpenSpec.upto (s : _root_.Go.ChangeSpec) : _root_.Go.OpenSpec := { _root_.Go.OpenSpec.ofChange s with cond := some uptoSmall }

/-- 'watermeetlaw18.ReplTells', WHERE WHAT IT READS IS OF BULK AT MOST 1048576: true; the input reads as it did. -/
def replTellsUptoRow : OpenClaim := { program := "ytpmofpekcbghnaagreat", sum := "0f52c24849eab9e4d2ca951c8a9633107b67e827c50cfbad490361971906cf0a", func := "watermeet/watermeetlaw18.ReplTells", spec := "replTells", inPlace := ["slices.overlaps[int]"], unfollowed := true, recurses := true, apart := false, narrowed := true }
def ReplTellsUptoSaid : Prop := replTellsUptoRow.holds Tryz.pinned (OpenSpec.upto replTellsSpec)

/-- 'watermeetlaw18.ReplStays', WHERE WHAT IT READS IS OF BULK AT MOST 1048576: true; the input reads as it did. -/
def replStaysUptoRow : OpenClaim := { program := "ytpmofpekcbghnaagreat", sum := "0f52c24849eab9e4d2ca951c8a9633107b67e827c50cfbad490361971906cf0a", func := "watermeet/watermeetlaw18.ReplStays", spec := "replStays", inPlace := ["slices.overlaps[int]"], unfollowed := true, recurses := true, apart := false, narrowed := true }
def ReplStaysUptoSaid : Prop := replStaysUptoRow.holds Tryz.pinned (OpenSpec.upto replStaysSpec)

/-- 'watermeetlaw18.ReplHigh', WHERE WHAT IT READS IS OF BULK AT MOST 1048576: true; the input reads as it did. -/
def replHighUptoRow : OpenClaim := { program := "ytpmofpekcbghnaagreat", sum := "0f52c24849eab9e4d2ca951c8a9633107b67e827c50cfbad490361971906cf0a", func := "watermeet/watermeetlaw18.ReplHigh", spec := "replHigh", inPlace := ["slices.overlaps[int]"], unfollowed := true, recurses := true, apart := false, narrowed := true }
def ReplHighUptoSaid : Prop := replHighUptoRow.holds Tryz.pinned (OpenSpec.upto replHighSpec)

/-- 'watermeetlaw18.ReplAppended', WHERE WHAT IT READS IS OF BULK AT MOST 1048576: true; the input reads as it did. -/
def replAppendedUptoRow : OpenClaim := { program := "ytpmofpekcbghnaagreat", sum := "0f52c24849eab9e4d2ca951c8a9633107b67e827c50cfbad490361971906cf0a", func := "watermeet/watermeetlaw18.ReplAppended", spec := "replAppended", inPlace := ["slices.overlaps[int]"], unfollowed := true, recurses := true, apart := false, narrowed := true }
def ReplAppendedUptoSaid : Prop := replAppendedUptoRow.holds Tryz.pinned (OpenSpec.upto replAppendedSpec)

/-- 'watermeetlaw18.ReplFollows', WHERE WHAT IT READS IS OF BULK AT MOST 1048576: true; the input reads as it did. -/
def replFollowsUptoRow : OpenClaim := { program := "ytpmofpekcbghnaagreat", sum := "0f52c24849eab9e4d2ca951c8a9633107b67e827c50cfbad490361971906cf0a", func := "watermeet/watermeetlaw18.ReplFollows", spec := "replFollows", inPlace := ["slices.overlaps[int]"], unfollowed := true, recurses := true, apart := false, narrowed := true }
def ReplFollowsUptoSaid : Prop := replFollowsUptoRow.holds Tryz.pinned (OpenSpec.upto replFollowsSpec)

/-- 'watermeetlaw18.ReplTorn', WHERE WHAT IT READS IS OF BULK AT MOST 1048576: true; the input reads as it did. -/
def replTornUptoRow : OpenClaim := { program := "ytpmofpekcbghnaagreat", sum := "0f52c24849eab9e4d2ca951c8a9633107b67e827c50cfbad490361971906cf0a", func := "watermeet/watermeetlaw18.ReplTorn", spec := "replTorn", inPlace := ["slices.overlaps[int]"], unfollowed := true, recurses := true, apart := false, narrowed := true }
def ReplTornUptoSaid : Prop := replTornUptoRow.holds Tryz.pinned (OpenSpec.upto replTornSpec)

/-- 'watermeetlaw18.ReplElects', WHERE WHAT IT READS IS OF BULK AT MOST 1048576: true; the input reads as it did. -/
def replElectsUptoRow : OpenClaim := { program := "ytpmofpekcbghnaagreat", sum := "0f52c24849eab9e4d2ca951c8a9633107b67e827c50cfbad490361971906cf0a", func := "watermeet/watermeetlaw18.ReplElects", spec := "replElects", inPlace := ["slices.overlaps[int]"], unfollowed := true, recurses := true, apart := false, narrowed := true }
def ReplElectsUptoSaid : Prop := replElectsUptoRow.holds Tryz.pinned (OpenSpec.upto replElectsSpec)

/-- 'watermeetlaw18.ReplFalls', WHERE WHAT IT READS IS OF BULK AT MOST 1048576: true; the input reads as it did. -/
def replFallsUptoRow : OpenClaim := { program := "ytpmofpekcbghnaagreat", sum := "0f52c24849eab9e4d2ca951c8a9633107b67e827c50cfbad490361971906cf0a", func := "watermeet/watermeetlaw18.ReplFalls", spec := "replFalls", inPlace := ["slices.overlaps[int]"], unfollowed := true, recurses := true, apart := false, narrowed := true }
def ReplFallsUptoSaid : Prop := replFallsUptoRow.holds Tryz.pinned (OpenSpec.upto replFallsSpec)

end Rows
end Go.Proofs.YtpmofpekcbghnaaGreat

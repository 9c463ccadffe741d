/-
  No cell of these rows narrows 'for every input' (looked for: loops, veiled, ifaces, maps, wideKeys, modest, calm, conditions, laid).
  DERIVED. THE GIVEN ROWS OF THIS SEAT. 9 by the template 'for every input the law returns true; each argument reads behind the call as it read before'; 0 by the template 'total and deterministic' (their statements: YtfhheomeebejnaaTotals.lean).
  GIVEN WITH THE SEED: the statements are not yours to turn. If you find one false, say at which input.
  Laid BY PROGRAM, IN A SANDBOX (cutbox-rows.mjs): the forced cells as the released guide's own fill.sh prints them over the translation da7ccdb3cac9f404… (all of the seat's roots in one cut). By AI agents, Wed Nov 11 2026. No macro, syntax, notation, axiom, sorry.
-/
import Derived.Test.YtfhheomeebejnaaChecked
import GoSem.Claim
import GoSem.ClaimJoined
import GoSem.ClaimMapViews
import Derived.JoinedTies
import Derived.KernelRfl
namespace Go.Proofs.Ytfhheomeebejnaa
/- THE CELL 'sum', in the pinned program and in every row, IS THE sha256 OF THE DUMP (.gsa) THAT YtfhheomeebejnaaProg.lean LOADS. Nothing in Lean hashes anything: it is a label: what it is worth is what the hold of that sum in a sandbox is worth. -/
noncomputable def Try.pinned : Pinned := { name := "ytfhheomeebejnaa", sum := "da7ccdb3cac9f4046027e86f31666b1a6a57916211ad23c13454df787af66ffd", checked := Try.checked }
namespace Rows
def none {H : Type} : Left H := { results := [], args := [] }

/-- 'watermeetlaw07.SegAppends': WHATEVER THE INPUT: true; the input reads as it did. -/
def segAppendsSpec : ChangeSpec := { name := "segAppends", fn := fun _ => fun
  | [d1, d2, d3] => { results := [.lit (.bool true)], args := [d1, d2, d3] }
  | _ => none }
def segAppendsRow : OpenClaim := { program := "ytfhheomeebejnaa", sum := "da7ccdb3cac9f4046027e86f31666b1a6a57916211ad23c13454df787af66ffd", func := "watermeet/watermeetlaw07.SegAppends", spec := "segAppends", unfollowed := true, recurses := true, apart := false }
def SegAppendsSaid : Prop := segAppendsRow.holds Try.pinned (OpenSpec.ofChange segAppendsSpec)

/-- ITS FALSE NEIGHBOUR: 'it returns false'. Refute it at one input. -/
def segAppendsWrong : ChangeSpec := { name := "segAppends", fn := fun _ => fun
  | [d1, d2, d3] => { results := [.lit (.bool false)], args := [d1, d2, d3] }
  | _ => none }
def SegAppendsWrongFalsely : Prop := segAppendsRow.holds Try.pinned (OpenSpec.ofChange segAppendsWrong)

/-- 'watermeetlaw07.SegBack': WHATEVER THE INPUT: true; the input reads as it did. -/
def segBackSpec : ChangeSpec := { name := "segBack", fn := fun _ => fun
  | [d1, d2, d3] => { results := [.lit (.bool true)], args := [d1, d2, d3] }
  | _ => none }
def segBackRow : OpenClaim := { program := "ytfhheomeebejnaa", sum := "da7ccdb3cac9f4046027e86f31666b1a6a57916211ad23c13454df787af66ffd", func := "watermeet/watermeetlaw07.SegBack", spec := "segBack", unfollowed := true, recurses := true, apart := false }
def SegBackSaid : Prop := segBackRow.holds Try.pinned (OpenSpec.ofChange segBackSpec)

/-- ITS FALSE NEIGHBOUR: 'it returns false'. Refute it at one input. -/
def segBackWrong : ChangeSpec := { name := "segBack", fn := fun _ => fun
  | [d1, d2, d3] => { results := [.lit (.bool false)], args := [d1, d2, d3] }
  | _ => none }
def SegBackWrongFalsely : Prop := segBackRow.holds Try.pinned (OpenSpec.ofChange segBackWrong)

/-- 'watermeetlaw07.SegSpoilt': WHATEVER THE INPUT: true; the input reads as it did. -/
def segSpoiltSpec : ChangeSpec := { name := "segSpoilt", fn := fun _ => fun
  | [d1, d2, d3] => { results := [.lit (.bool true)], args := [d1, d2, d3] }
  | _ => none }
def segSpoiltRow : OpenClaim := { program := "ytfhheomeebejnaa", sum := "da7ccdb3cac9f4046027e86f31666b1a6a57916211ad23c13454df787af66ffd", func := "watermeet/watermeetlaw07.SegSpoilt", spec := "segSpoilt", unfollowed := true, recurses := true, apart := false }
def SegSpoiltSaid : Prop := segSpoiltRow.holds Try.pinned (OpenSpec.ofChange segSpoiltSpec)

/-- ITS FALSE NEIGHBOUR: 'it returns false'. Refute it at one input. -/
def segSpoiltWrong : ChangeSpec := { name := "segSpoilt", fn := fun _ => fun
  | [d1, d2, d3] => { results := [.lit (.bool false)], args := [d1, d2, d3] }
  | _ => none }
def SegSpoiltWrongFalsely : Prop := segSpoiltRow.holds Try.pinned (OpenSpec.ofChange segSpoiltWrong)

/-- 'watermeetlaw07.SegOrder': WHATEVER THE INPUT: true; the input reads as it did. -/
def segOrderSpec : ChangeSpec := { name := "segOrder", fn := fun _ => fun
  | [d] => { results := [.lit (.bool true)], args := [d] }
  | _ => none }
def segOrderRow : OpenClaim := { program := "ytfhheomeebejnaa", sum := "da7ccdb3cac9f4046027e86f31666b1a6a57916211ad23c13454df787af66ffd", func := "watermeet/watermeetlaw07.SegOrder", spec := "segOrder", unfollowed := true, recurses := true, apart := false }
def SegOrderSaid : Prop := segOrderRow.holds Try.pinned (OpenSpec.ofChange segOrderSpec)

/-- ITS FALSE NEIGHBOUR: 'it returns false'. Refute it at one input. -/
def segOrderWrong : ChangeSpec := { name := "segOrder", fn := fun _ => fun
  | [d] => { results := [.lit (.bool false)], args := [d] }
  | _ => none }
def SegOrderWrongFalsely : Prop := segOrderRow.holds Try.pinned (OpenSpec.ofChange segOrderWrong)

/-- 'watermeetlaw07.SegScans': WHATEVER THE INPUT: true; the input reads as it did. -/
def segScansSpec : ChangeSpec := { name := "segScans", fn := fun _ => fun
  | [d] => { results := [.lit (.bool true)], args := [d] }
  | _ => none }
def segScansRow : OpenClaim := { program := "ytfhheomeebejnaa", sum := "da7ccdb3cac9f4046027e86f31666b1a6a57916211ad23c13454df787af66ffd", func := "watermeet/watermeetlaw07.SegScans", spec := "segScans", unfollowed := true, recurses := true, apart := false }
def SegScansSaid : Prop := segScansRow.holds Try.pinned (OpenSpec.ofChange segScansSpec)

/-- ITS FALSE NEIGHBOUR: 'it returns false'. Refute it at one input. -/
def segScansWrong : ChangeSpec := { name := "segScans", fn := fun _ => fun
  | [d] => { results := [.lit (.bool false)], args := [d] }
  | _ => none }
def SegScansWrongFalsely : Prop := segScansRow.holds Try.pinned (OpenSpec.ofChange segScansWrong)

/-- 'watermeetlaw07.SegTorn': WHATEVER THE INPUT: true; the input reads as it did. -/
def segTornSpec : ChangeSpec := { name := "segTorn", fn := fun _ => fun
  | [d1, d2] => { results := [.lit (.bool true)], args := [d1, d2] }
  | _ => none }
def segTornRow : OpenClaim := { program := "ytfhheomeebejnaa", sum := "da7ccdb3cac9f4046027e86f31666b1a6a57916211ad23c13454df787af66ffd", func := "watermeet/watermeetlaw07.SegTorn", spec := "segTorn", unfollowed := true, recurses := true, apart := false }
def SegTornSaid : Prop := segTornRow.holds Try.pinned (OpenSpec.ofChange segTornSpec)

/-- ITS FALSE NEIGHBOUR: 'it returns false'. Refute it at one input. -/
def segTornWrong : ChangeSpec := { name := "segTorn", fn := fun _ => fun
  | [d1, d2] => { results := [.lit (.bool false)], args := [d1, d2] }
  | _ => none }
def SegTornWrongFalsely : Prop := segTornRow.holds Try.pinned (OpenSpec.ofChange segTornWrong)

/-- 'watermeetlaw07.SegCuts': WHATEVER THE INPUT: true; the input reads as it did. -/
def segCutsSpec : ChangeSpec := { name := "segCuts", fn := fun _ => fun
  | [d1, d2] => { results := [.lit (.bool true)], args := [d1, d2] }
  | _ => none }
def segCutsRow : OpenClaim := { program := "ytfhheomeebejnaa", sum := "da7ccdb3cac9f4046027e86f31666b1a6a57916211ad23c13454df787af66ffd", func := "watermeet/watermeetlaw07.SegCuts", spec := "segCuts", unfollowed := true, recurses := true, apart := false }
def SegCutsSaid : Prop := segCutsRow.holds Try.pinned (OpenSpec.ofChange segCutsSpec)

/-- ITS FALSE NEIGHBOUR: 'it returns false'. Refute it at one input. -/
def segCutsWrong : ChangeSpec := { name := "segCuts", fn := fun _ => fun
  | [d1, d2] => { results := [.lit (.bool false)], args := [d1, d2] }
  | _ => none }
def SegCutsWrongFalsely : Prop := segCutsRow.holds Try.pinned (OpenSpec.ofChange segCutsWrong)

/-- 'watermeetlaw07.SegParts': WHATEVER THE INPUT: true; the input reads as it did. -/
def segPartsSpec : ChangeSpec := { name := "segParts", fn := fun _ => fun
  | [d1, d2, d3, d4] => { results := [.lit (.bool true)], args := [d1, d2, d3, d4] }
  | _ => none }
def segPartsRow : OpenClaim := { program := "ytfhheomeebejnaa", sum := "da7ccdb3cac9f4046027e86f31666b1a6a57916211ad23c13454df787af66ffd", func := "watermeet/watermeetlaw07.SegParts", spec := "segParts", unfollowed := true, recurses := true, apart := false }
def SegPartsSaid : Prop := segPartsRow.holds Try.pinned (OpenSpec.ofChange segPartsSpec)

/-- ITS FALSE NEIGHBOUR: 'it returns false'. Refute it at one input. -/
def segPartsWrong : ChangeSpec := { name := "segParts", fn := fun _ => fun
  | [d1, d2, d3, d4] => { results := [.lit (.bool false)], args := [d1, d2, d3, d4] }
  | _ => none }
def SegPartsWrongFalsely : Prop := segPartsRow.holds Try.pinned (OpenSpec.ofChange segPartsWrong)

/-- 'watermeetlaw07.SegMakes': WHATEVER THE INPUT: true; the input reads as it did. -/
def segMakesSpec : ChangeSpec := { name := "segMakes", fn := fun _ => fun
  | [d1, d2, d3, d4, d5] => { results := [.lit (.bool true)], args := [d1, d2, d3, d4, d5] }
  | _ => none }
def segMakesRow : OpenClaim := { program := "ytfhheomeebejnaa", sum := "da7ccdb3cac9f4046027e86f31666b1a6a57916211ad23c13454df787af66ffd", func := "watermeet/watermeetlaw07.SegMakes", spec := "segMakes", unfollowed := true, recurses := true, apart := false }
def SegMakesSaid : Prop := segMakesRow.holds Try.pinned (OpenSpec.ofChange segMakesSpec)

/-- ITS FALSE NEIGHBOUR: 'it returns false'. Refute it at one input. -/
def segMakesWrong : ChangeSpec := { name := "segMakes", fn := fun _ => fun
  | [d1, d2, d3, d4, d5] => { results := [.lit (.bool false)], args := [d1, d2, d3, d4, d5] }
  | _ => none }
def SegMakesWrongFalsely : Prop := segMakesRow.holds Try.pinned (OpenSpec.ofChange segMakesWrong)

/- THE SECOND FORM. 'bulk': how many values and letters a reading holds, each counted each time it is reached (what is shared counts as often as it is met; a slice's spare places count too). A statement '..UptoSaid' is the law's where the arguments, and the package variables that the reading takes, are together of bulk at most 1048576: NARROWER than '..Said'. Prove '..Said' where nothing that the law and all that it calls make is longer than what came in: it says more and counts as full. Else prove '..UptoSaid'. A law counts once. -/
mutual
def uptoBulk {H : Type} : DataW H → Nat
  | .lit (.string bytes) => bytes.length + 1
  | .lit _ => 1
  | .nil => 1
  | .ptr d => uptoBulk d + 1
  | .slice elems spare => uptoBulkAll elems + uptoBulkAll spare + 1
  | .agg parts => uptoBulkAll parts + 1
  | .iface _ d => uptoBulk d + 1
  | .map entries => uptoBulkEntries entries + 1
  | .held _ => 1
def uptoBulkAll {H : Type} : List (DataW H) → Nat
  | [] => 0
  | d :: r => uptoBulk d + uptoBulkAll r
def uptoBulkEntries {H : Type} : List (Lit × DataW H) → Nat
  | [] => 0
  | x :: r => uptoBulkEntry x + uptoBulkEntries r
def uptoBulkEntry {H : Type} : Lit × DataW H → Nat
  | (.string bytes, d) => bytes.length + uptoBulk d + 1
  | (_, d) => uptoBulk d + 1
 end
def uptoSmall : (H : Type) → List (DataW H) → Bool := fun _ ds => decide (uptoBulkAll ds ≤ 1048576)
def OpenSpec.upto (s : _root_.Go.ChangeSpec) : _root_.Go.OpenSpec := { _root_.Go.OpenSpec.ofChange s with cond := some uptoSmall }

/-- 'watermeetlaw07.SegAppends', WHERE WHAT IT READS IS OF BULK AT MOST 1048576: true; the input reads as it did. -/
def segAppendsUptoRow : OpenClaim := { program := "ytfhheomeebejnaa", sum := "da7ccdb3cac9f4046027e86f31666b1a6a57916211ad23c13454df787af66ffd", func := "watermeet/watermeetlaw07.SegAppends", spec := "segAppends", unfollowed := true, recurses := true, apart := false, narrowed := true }
def SegAppendsUptoSaid : Prop := segAppendsUptoRow.holds Try.pinned (OpenSpec.upto segAppendsSpec)

/-- 'watermeetlaw07.SegBack', WHERE WHAT IT READS IS OF BULK AT MOST 1048576: true; the input reads as it did. -/
def segBackUptoRow : OpenClaim := { program := "ytfhheomeebejnaa", sum := "da7ccdb3cac9f4046027e86f31666b1a6a57916211ad23c13454df787af66ffd", func := "watermeet/watermeetlaw07.SegBack", spec := "segBack", unfollowed := true, recurses := true, apart := false, narrowed := true }
def SegBackUptoSaid : Prop := segBackUptoRow.holds Try.pinned (OpenSpec.upto segBackSpec)

/-- 'watermeetlaw07.SegSpoilt', WHERE WHAT IT READS IS OF BULK AT MOST 1048576: true; the input reads as it did. -/
def segSpoiltUptoRow : OpenClaim := { program := "ytfhheomeebejnaa", sum := "da7ccdb3cac9f4046027e86f31666b1a6a57916211ad23c13454df787af66ffd", func := "watermeet/watermeetlaw07.SegSpoilt", spec := "segSpoilt", unfollowed := true, recurses := true, apart := false, narrowed := true }
def SegSpoiltUptoSaid : Prop := segSpoiltUptoRow.holds Try.pinned (OpenSpec.upto segSpoiltSpec)

/-- 'watermeetlaw07.SegOrder', WHERE WHAT IT READS IS OF BULK AT MOST 1048576: true; the input reads as it did. -/
def segOrderUptoRow : OpenClaim := { program := "ytfhheomeebejnaa", sum := "da7ccdb3cac9f4046027e86f31666b1a6a57916211ad23c13454df787af66ffd", func := "watermeet/watermeetlaw07.SegOrder", spec := "segOrder", unfollowed := true, recurses := true, apart := false, narrowed := true }
def SegOrderUptoSaid : Prop := segOrderUptoRow.holds Try.pinned (OpenSpec.upto segOrderSpec)

/-- 'watermeetlaw07.SegScans', WHERE WHAT IT READS IS OF BULK AT MOST 1048576: true; the input reads as it did. -/
def segScansUptoRow : OpenClaim := { program := "ytfhheomeebejnaa", sum := "da7ccdb3cac9f4046027e86f31666b1a6a57916211ad23c13454df787af66ffd", func := "watermeet/watermeetlaw07.SegScans", spec := "segScans", unfollowed := true, recurses := true, apart := false, narrowed := true }
def SegScansUptoSaid : Prop := segScansUptoRow.holds Try.pinned (OpenSpec.upto segScansSpec)

/-- 'watermeetlaw07.SegTorn', WHERE WHAT IT READS IS OF BULK AT MOST 1048576: true; the input reads as it did. -/
def segTornUptoRow : OpenClaim := { program := "ytfhheomeebejnaa", sum := "da7ccdb3cac9f4046027e86f31666b1a6a57916211ad23c13454df787af66ffd", func := "watermeet/watermeetlaw07.SegTorn", spec := "segTorn", unfollowed := true, recurses := true, apart := false, narrowed := true }
def SegTornUptoSaid : Prop := segTornUptoRow.holds Try.pinned (OpenSpec.upto segTornSpec)

/-- 'watermeetlaw07.SegCuts', WHERE WHAT IT READS IS OF BULK AT MOST 1048576: true; the input reads as it did. -/
def segCutsUptoRow : OpenClaim := { program := "ytfhheomeebejnaa", sum := "da7ccdb3cac9f4046027e86f31666b1a6a57916211ad23c13454df787af66ffd", func := "watermeet/watermeetlaw07.SegCuts", spec := "segCuts", unfollowed := true, recurses := true, apart := false, narrowed := true }
def SegCutsUptoSaid : Prop := segCutsUptoRow.holds Try.pinned (OpenSpec.upto segCutsSpec)

/-- 'watermeetlaw07.SegParts', WHERE WHAT IT READS IS OF BULK AT MOST 1048576: true; the input reads as it did. -/
def segPartsUptoRow : OpenClaim := { program := "ytfhheomeebejnaa", sum := "da7ccdb3cac9f4046027e86f31666b1a6a57916211ad23c13454df787af66ffd", func := "watermeet/watermeetlaw07.SegParts", spec := "segParts", unfollowed := true, recurses := true, apart := false, narrowed := true }
def SegPartsUptoSaid : Prop := segPartsUptoRow.holds Try.pinned (OpenSpec.upto segPartsSpec)

/-- 'watermeetlaw07.SegMakes', WHERE WHAT IT READS IS OF BULK AT MOST 1048576: true; the input reads as it did. -/
def segMakesUptoRow : OpenClaim := { program := "ytfhheomeebejnaa", sum := "da7ccdb3cac9f4046027e86f31666b1a6a57916211ad23c13454df787af66ffd", func := "watermeet/watermeetlaw07.SegMakes", spec := "segMakes", unfollowed := true, recurses := true, apart := false, narrowed := true }
def SegMakesUptoSaid : Prop := segMakesUptoRow.holds Try.pinned (OpenSpec.upto segMakesSpec)

end Rows
end Go.Proofs.Ytfhheomeebejnaa

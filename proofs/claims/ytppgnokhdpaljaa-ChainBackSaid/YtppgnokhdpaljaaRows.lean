/-
  No cell of these rows narrows 'for every input' (looked for: loops, veiled, ifaces, maps, wideKeys, modest, calm, conditions, laid).
  DERIVED. THE GIVEN ROWS OF THIS SEAT. 6 by the template 'for every input the law returns true; each argument reads behind the call as it read before'; 0 by the template 'total and deterministic' (their statements: YtppgnokhdpaljaaTotals.lean).
  GIVEN WITH THE SEED: the statements are not yours to turn. If you find one false, say at which input.
  Laid BY PROGRAM, IN A SANDBOX (cutbox-rows.mjs): the forced cells as the released guide's own fill.sh prints them over the translation ccb809ad28785048… (all of the seat's roots in one cut). By AI agents, Wed Nov 11 2026. No macro, syntax, notation, axiom, sorry.
-/
import Derived.Test.YtppgnokhdpaljaaChecked
import GoSem.Claim
import GoSem.ClaimJoined
import GoSem.ClaimMapViews
import Derived.JoinedTies
import Derived.KernelRfl
namespace Go.Proofs.Ytppgnokhdpaljaa
/- THE CELL 'sum', in the pinned program and in every row, IS THE sha256 OF THE DUMP (.gsa) THAT YtppgnokhdpaljaaProg.lean LOADS. Nothing in Lean hashes anything: it is a label: what it is worth is what the hold of that sum in a sandbox is worth. -/
noncomputable def Try.pinned : Pinned := { name := "ytppgnokhdpaljaa", sum := "ccb809ad2878504849480c69e72faa80e60892c338c2466b99c116c39721aa06", checked := Try.checked }
namespace Rows
def none {H : Type} : Left H := { results := [], args := [] }

/-- 'watermeetlaw09.ChainBack': WHATEVER THE INPUT: true; the input reads as it did. -/
def chainBackSpec : ChangeSpec := { name := "chainBack", fn := fun _ => fun
  | [d1, d2, d3, d4] => { results := [.lit (.bool true)], args := [d1, d2, d3, d4] }
  | _ => none }
def chainBackRow : OpenClaim := { program := "ytppgnokhdpaljaa", sum := "ccb809ad2878504849480c69e72faa80e60892c338c2466b99c116c39721aa06", func := "watermeet/watermeetlaw09.ChainBack", spec := "chainBack", unfollowed := true, recurses := true, apart := false }
def ChainBackSaid : Prop := chainBackRow.holds Try.pinned (OpenSpec.ofChange chainBackSpec)

/-- ITS FALSE NEIGHBOUR: 'it returns false'. Refute it at one input. -/
def chainBackWrong : ChangeSpec := { name := "chainBack", fn := fun _ => fun
  | [d1, d2, d3, d4] => { results := [.lit (.bool false)], args := [d1, d2, d3, d4] }
  | _ => none }
def ChainBackWrongFalsely : Prop := chainBackRow.holds Try.pinned (OpenSpec.ofChange chainBackWrong)

/-- 'watermeetlaw09.ChainOnce': WHATEVER THE INPUT: true; the input reads as it did. -/
def chainOnceSpec : ChangeSpec := { name := "chainOnce", fn := fun _ => fun
  | [d1, d2] => { results := [.lit (.bool true)], args := [d1, d2] }
  | _ => none }
def chainOnceRow : OpenClaim := { program := "ytppgnokhdpaljaa", sum := "ccb809ad2878504849480c69e72faa80e60892c338c2466b99c116c39721aa06", func := "watermeet/watermeetlaw09.ChainOnce", spec := "chainOnce", unfollowed := true, recurses := true, apart := false }
def ChainOnceSaid : Prop := chainOnceRow.holds Try.pinned (OpenSpec.ofChange chainOnceSpec)

/-- ITS FALSE NEIGHBOUR: 'it returns false'. Refute it at one input. -/
def chainOnceWrong : ChangeSpec := { name := "chainOnce", fn := fun _ => fun
  | [d1, d2] => { results := [.lit (.bool false)], args := [d1, d2] }
  | _ => none }
def ChainOnceWrongFalsely : Prop := chainOnceRow.holds Try.pinned (OpenSpec.ofChange chainOnceWrong)

/-- 'watermeetlaw09.ChainMost': WHATEVER THE INPUT: true; the input reads as it did. -/
def chainMostSpec : ChangeSpec := { name := "chainMost", fn := fun _ => fun
  | [d1, d2, d3] => { results := [.lit (.bool true)], args := [d1, d2, d3] }
  | _ => none }
def chainMostRow : OpenClaim := { program := "ytppgnokhdpaljaa", sum := "ccb809ad2878504849480c69e72faa80e60892c338c2466b99c116c39721aa06", func := "watermeet/watermeetlaw09.ChainMost", spec := "chainMost", unfollowed := true, recurses := true, apart := false }
def ChainMostSaid : Prop := chainMostRow.holds Try.pinned (OpenSpec.ofChange chainMostSpec)

/-- ITS FALSE NEIGHBOUR: 'it returns false'. Refute it at one input. -/
def chainMostWrong : ChangeSpec := { name := "chainMost", fn := fun _ => fun
  | [d1, d2, d3] => { results := [.lit (.bool false)], args := [d1, d2, d3] }
  | _ => none }
def ChainMostWrongFalsely : Prop := chainMostRow.holds Try.pinned (OpenSpec.ofChange chainMostWrong)

/-- 'watermeetlaw09.ChainTorn': WHATEVER THE INPUT: true; the input reads as it did. -/
def chainTornSpec : ChangeSpec := { name := "chainTorn", fn := fun _ => fun
  | [d1, d2] => { results := [.lit (.bool true)], args := [d1, d2] }
  | _ => none }
def chainTornRow : OpenClaim := { program := "ytppgnokhdpaljaa", sum := "ccb809ad2878504849480c69e72faa80e60892c338c2466b99c116c39721aa06", func := "watermeet/watermeetlaw09.ChainTorn", spec := "chainTorn", unfollowed := true, recurses := true, apart := false }
def ChainTornSaid : Prop := chainTornRow.holds Try.pinned (OpenSpec.ofChange chainTornSpec)

/-- ITS FALSE NEIGHBOUR: 'it returns false'. Refute it at one input. -/
def chainTornWrong : ChangeSpec := { name := "chainTorn", fn := fun _ => fun
  | [d1, d2] => { results := [.lit (.bool false)], args := [d1, d2] }
  | _ => none }
def ChainTornWrongFalsely : Prop := chainTornRow.holds Try.pinned (OpenSpec.ofChange chainTornWrong)

/-- 'watermeetlaw09.ChainSpoilt': WHATEVER THE INPUT: true; the input reads as it did. -/
def chainSpoiltSpec : ChangeSpec := { name := "chainSpoilt", fn := fun _ => fun
  | [d1, d2, d3, d4] => { results := [.lit (.bool true)], args := [d1, d2, d3, d4] }
  | _ => none }
def chainSpoiltRow : OpenClaim := { program := "ytppgnokhdpaljaa", sum := "ccb809ad2878504849480c69e72faa80e60892c338c2466b99c116c39721aa06", func := "watermeet/watermeetlaw09.ChainSpoilt", spec := "chainSpoilt", unfollowed := true, recurses := true, apart := false }
def ChainSpoiltSaid : Prop := chainSpoiltRow.holds Try.pinned (OpenSpec.ofChange chainSpoiltSpec)

/-- ITS FALSE NEIGHBOUR: 'it returns false'. Refute it at one input. -/
def chainSpoiltWrong : ChangeSpec := { name := "chainSpoilt", fn := fun _ => fun
  | [d1, d2, d3, d4] => { results := [.lit (.bool false)], args := [d1, d2, d3, d4] }
  | _ => none }
def ChainSpoiltWrongFalsely : Prop := chainSpoiltRow.holds Try.pinned (OpenSpec.ofChange chainSpoiltWrong)

/-- 'watermeetlaw09.ChainReplace': WHATEVER THE INPUT: true; the input reads as it did. -/
def chainReplaceSpec : ChangeSpec := { name := "chainReplace", fn := fun _ => fun
  | [d1, d2, d3] => { results := [.lit (.bool true)], args := [d1, d2, d3] }
  | _ => none }
def chainReplaceRow : OpenClaim := { program := "ytppgnokhdpaljaa", sum := "ccb809ad2878504849480c69e72faa80e60892c338c2466b99c116c39721aa06", func := "watermeet/watermeetlaw09.ChainReplace", spec := "chainReplace", unfollowed := true, recurses := true, apart := false }
def ChainReplaceSaid : Prop := chainReplaceRow.holds Try.pinned (OpenSpec.ofChange chainReplaceSpec)

/-- ITS FALSE NEIGHBOUR: 'it returns false'. Refute it at one input. -/
def chainReplaceWrong : ChangeSpec := { name := "chainReplace", fn := fun _ => fun
  | [d1, d2, d3] => { results := [.lit (.bool false)], args := [d1, d2, d3] }
  | _ => none }
def ChainReplaceWrongFalsely : Prop := chainReplaceRow.holds Try.pinned (OpenSpec.ofChange chainReplaceWrong)

/- THE SECOND FORM. 'bulk': how many values and letters a reading holds, each counted each time it is reached (what is shared counts as often as it is met; a slice's spare places count too). A statement '..UptoSaid' is the law's where the arguments, and the package variables that the reading takes, are together of bulk at most 1048576: NARROWER than '..Said'. Prove '..Said' where nothing that the law and all that it calls make is longer than what came in: it says more and counts as full. Else prove '..UptoSaid'. A law counts once. -/
mutual
def uptoBulk {H : Type} : DataW H → Nat
  | .lit (.string bytes) => bytes.length + 1
  | .lit _ => 1
  | .nil => 1
  | .ptr d => uptoBulk d + 1
  | .slice elems spare => uptoBulkAll elems + uptoBulkAll spare + 1
  | .agg parts => uptoBulkAll parts + 1
  | .iface _ d => uptoBulk d + 1
  | .map entries => uptoBulkEntries entries + 1
  | .held _ => 1
def uptoBulkAll {H : Type} : List (DataW H) → Nat
  | [] => 0
  | d :: r => uptoBulk d + uptoBulkAll r
def uptoBulkEntries {H : Type} : List (Lit × DataW H) → Nat
  | [] => 0
  | x :: r => uptoBulkEntry x + uptoBulkEntries r
def uptoBulkEntry {H : Type} : Lit × DataW H → Nat
  | (.string bytes, d) => bytes.length + uptoBulk d + 1
  | (_, d) => uptoBulk d + 1
 end
def uptoSmall : (H : Type) → List (DataW H) → Bool := fun _ ds => decide (uptoBulkAll ds ≤ 1048576)
def OpenSpec.upto (s : _root_.Go.ChangeSpec) : _root_.Go.OpenSpec := { _root_.Go.OpenSpec.ofChange s with cond := some uptoSmall }

/-- 'watermeetlaw09.ChainBack', WHERE WHAT IT READS IS OF BULK AT MOST 1048576: true; the input reads as it did. -/
def chainBackUptoRow : OpenClaim := { program := "ytppgnokhdpaljaa", sum := "ccb809ad2878504849480c69e72faa80e60892c338c2466b99c116c39721aa06", func := "watermeet/watermeetlaw09.ChainBack", spec := "chainBack", unfollowed := true, recurses := true, apart := false, narrowed := true }
def ChainBackUptoSaid : Prop := chainBackUptoRow.holds Try.pinned (OpenSpec.upto chainBackSpec)

/-- 'watermeetlaw09.ChainOnce', WHERE WHAT IT READS IS OF BULK AT MOST 1048576: true; the input reads as it did. -/
def chainOnceUptoRow : OpenClaim := { program := "ytppgnokhdpaljaa", sum := "ccb809ad2878504849480c69e72faa80e60892c338c2466b99c116c39721aa06", func := "watermeet/watermeetlaw09.ChainOnce", spec := "chainOnce", unfollowed := true, recurses := true, apart := false, narrowed := true }
def ChainOnceUptoSaid : Prop := chainOnceUptoRow.holds Try.pinned (OpenSpec.upto chainOnceSpec)

/-- 'watermeetlaw09.ChainMost', WHERE WHAT IT READS IS OF BULK AT MOST 1048576: true; the input reads as it did. -/
def chainMostUptoRow : OpenClaim := { program := "ytppgnokhdpaljaa", sum := "ccb809ad2878504849480c69e72faa80e60892c338c2466b99c116c39721aa06", func := "watermeet/watermeetlaw09.ChainMost", spec := "chainMost", unfollowed := true, recurses := true, apart := false, narrowed := true }
def ChainMostUptoSaid : Prop := chainMostUptoRow.holds Try.pinned (OpenSpec.upto chainMostSpec)

/-- 'watermeetlaw09.ChainTorn', WHERE WHAT IT READS IS OF BULK AT MOST 1048576: true; the input reads as it did. -/
def chainTornUptoRow : OpenClaim := { program := "ytppgnokhdpaljaa", sum := "ccb809ad2878504849480c69e72faa80e60892c338c2466b99c116c39721aa06", func := "watermeet/watermeetlaw09.ChainTorn", spec := "chainTorn", unfollowed := true, recurses := true, apart := false, narrowed := true }
def ChainTornUptoSaid : Prop := chainTornUptoRow.holds Try.pinned (OpenSpec.upto chainTornSpec)

/-- 'watermeetlaw09.ChainSpoilt', WHERE WHAT IT READS IS OF BULK AT MOST 1048576: true; the input reads as it did. -/
def chainSpoiltUptoRow : OpenClaim := { program := "ytppgnokhdpaljaa", sum := "ccb809ad2878504849480c69e72faa80e60892c338c2466b99c116c39721aa06", func := "watermeet/watermeetlaw09.ChainSpoilt", spec := "chainSpoilt", unfollowed := true, recurses := true, apart := false, narrowed := true }
def ChainSpoiltUptoSaid : Prop := chainSpoiltUptoRow.holds Try.pinned (OpenSpec.upto chainSpoiltSpec)

/-- 'watermeetlaw09.ChainReplace', WHERE WHAT IT READS IS OF BULK AT MOST 1048576: true; the input reads as it did. -/
def chainReplaceUptoRow : OpenClaim := { program := "ytppgnokhdpaljaa", sum := "ccb809ad2878504849480c69e72faa80e60892c338c2466b99c116c39721aa06", func := "watermeet/watermeetlaw09.ChainReplace", spec := "chainReplace", unfollowed := true, recurses := true, apart := false, narrowed := true }
def ChainReplaceUptoSaid : Prop := chainReplaceUptoRow.holds Try.pinned (OpenSpec.upto chainReplaceSpec)

end Rows
end Go.Proofs.Ytppgnokhdpaljaa

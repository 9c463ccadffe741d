/-
  No cell of these rows narrows 'for every input' (looked for: loops, veiled, ifaces, maps, wideKeys, modest, calm, conditions, laid).
  DERIVED. THE GIVEN ROWS OF THIS SEAT. 9 by the template 'for every input the law returns true; each argument reads behind the call as it read before'; 0 by the template 'total and deterministic' (their statements: YtbddbogdhkikoaaTotals.lean).
  GIVEN WITH THE SEED: the statements are not yours to turn. If you find one false, say at which input.
  Laid BY PROGRAM, IN A SANDBOX (cutbox-rows.mjs): the forced cells as the released guide's own fill.sh prints them over the translation f4b0dcc29d8706b6… (all of the seat's roots in one cut). By AI agents, Wed Nov 11 2026. No macro, syntax, notation, axiom, sorry.
-/
import Derived.Test.YtbddbogdhkikoaaChecked
import GoSem.Claim
import GoSem.ClaimJoined
import GoSem.ClaimMapViews
import Derived.JoinedTies
import Derived.KernelRfl
namespace Go.Proofs.Ytbddbogdhkikoaa
/- THE CELL 'sum', in the pinned program and in every row, IS THE sha256 OF THE DUMP (.gsa) THAT YtbddbogdhkikoaaProg.lean LOADS. Nothing in Lean hashes anything: it is a label: what it is worth is what the hold of that sum in a sandbox is worth. -/
noncomputable def Try.pinned : Pinned := { name := "ytbddbogdhkikoaa", sum := "f4b0dcc29d8706b6694d30ed60c941a7059c22b4a3cc954e507478d3bcacbe3e", checked := Try.checked }
namespace Rows
def none {H : Type} : Left H := { results := [], args := [] }

/-- 'watermeetlaw28.CarryMakes': WHATEVER THE INPUT: true; the input reads as it did. -/
def carryMakesSpec : ChangeSpec := { name := "carryMakes", fn := fun _ => fun
  | [d1, d2, d3] => { results := [.lit (.bool true)], args := [d1, d2, d3] }
  | _ => none }
def carryMakesRow : OpenClaim := { program := "ytbddbogdhkikoaa", sum := "f4b0dcc29d8706b6694d30ed60c941a7059c22b4a3cc954e507478d3bcacbe3e", func := "watermeet/watermeetlaw28.CarryMakes", spec := "carryMakes", unfollowed := true, recurses := true, apart := false }
def CarryMakesSaid : Prop := carryMakesRow.holds Try.pinned (OpenSpec.ofChange carryMakesSpec)

/-- ITS FALSE NEIGHBOUR: 'it returns false'. Refute it at one input. -/
def carryMakesWrong : ChangeSpec := { name := "carryMakes", fn := fun _ => fun
  | [d1, d2, d3] => { results := [.lit (.bool false)], args := [d1, d2, d3] }
  | _ => none }
def CarryMakesWrongFalsely : Prop := carryMakesRow.holds Try.pinned (OpenSpec.ofChange carryMakesWrong)

/-- 'watermeetlaw28.CarryTells': WHATEVER THE INPUT: true; the input reads as it did. -/
def carryTellsSpec : ChangeSpec := { name := "carryTells", fn := fun _ => fun
  | [d1, d2, d3] => { results := [.lit (.bool true)], args := [d1, d2, d3] }
  | _ => none }
def carryTellsRow : OpenClaim := { program := "ytbddbogdhkikoaa", sum := "f4b0dcc29d8706b6694d30ed60c941a7059c22b4a3cc954e507478d3bcacbe3e", func := "watermeet/watermeetlaw28.CarryTells", spec := "carryTells", unfollowed := true, recurses := true, apart := false }
def CarryTellsSaid : Prop := carryTellsRow.holds Try.pinned (OpenSpec.ofChange carryTellsSpec)

/-- ITS FALSE NEIGHBOUR: 'it returns false'. Refute it at one input. -/
def carryTellsWrong : ChangeSpec := { name := "carryTells", fn := fun _ => fun
  | [d1, d2, d3] => { results := [.lit (.bool false)], args := [d1, d2, d3] }
  | _ => none }
def CarryTellsWrongFalsely : Prop := carryTellsRow.holds Try.pinned (OpenSpec.ofChange carryTellsWrong)

/-- 'watermeetlaw28.CarryChains': WHATEVER THE INPUT: true; the input reads as it did. -/
def carryChainsSpec : ChangeSpec := { name := "carryChains", fn := fun _ => fun
  | [d1, d2] => { results := [.lit (.bool true)], args := [d1, d2] }
  | _ => none }
def carryChainsRow : OpenClaim := { program := "ytbddbogdhkikoaa", sum := "f4b0dcc29d8706b6694d30ed60c941a7059c22b4a3cc954e507478d3bcacbe3e", func := "watermeet/watermeetlaw28.CarryChains", spec := "carryChains", unfollowed := true, recurses := true, apart := false }
def CarryChainsSaid : Prop := carryChainsRow.holds Try.pinned (OpenSpec.ofChange carryChainsSpec)

/-- ITS FALSE NEIGHBOUR: 'it returns false'. Refute it at one input. -/
def carryChainsWrong : ChangeSpec := { name := "carryChains", fn := fun _ => fun
  | [d1, d2] => { results := [.lit (.bool false)], args := [d1, d2] }
  | _ => none }
def CarryChainsWrongFalsely : Prop := carryChainsRow.holds Try.pinned (OpenSpec.ofChange carryChainsWrong)

/-- 'watermeetlaw28.CarrySafe': WHATEVER THE INPUT: true; the input reads as it did. -/
def carrySafeSpec : ChangeSpec := { name := "carrySafe", fn := fun _ => fun
  | [d1, d2, d3, d4] => { results := [.lit (.bool true)], args := [d1, d2, d3, d4] }
  | _ => none }
def carrySafeRow : OpenClaim := { program := "ytbddbogdhkikoaa", sum := "f4b0dcc29d8706b6694d30ed60c941a7059c22b4a3cc954e507478d3bcacbe3e", func := "watermeet/watermeetlaw28.CarrySafe", spec := "carrySafe", unfollowed := true, recurses := true, apart := false }
def CarrySafeSaid : Prop := carrySafeRow.holds Try.pinned (OpenSpec.ofChange carrySafeSpec)

/-- ITS FALSE NEIGHBOUR: 'it returns false'. Refute it at one input. -/
def carrySafeWrong : ChangeSpec := { name := "carrySafe", fn := fun _ => fun
  | [d1, d2, d3, d4] => { results := [.lit (.bool false)], args := [d1, d2, d3, d4] }
  | _ => none }
def CarrySafeWrongFalsely : Prop := carrySafeRow.holds Try.pinned (OpenSpec.ofChange carrySafeWrong)

/-- 'watermeetlaw28.CarryBack': WHATEVER THE INPUT: true; the input reads as it did. -/
def carryBackSpec : ChangeSpec := { name := "carryBack", fn := fun _ => fun
  | [d1, d2] => { results := [.lit (.bool true)], args := [d1, d2] }
  | _ => none }
def carryBackRow : OpenClaim := { program := "ytbddbogdhkikoaa", sum := "f4b0dcc29d8706b6694d30ed60c941a7059c22b4a3cc954e507478d3bcacbe3e", func := "watermeet/watermeetlaw28.CarryBack", spec := "carryBack", unfollowed := true, recurses := true, apart := false }
def CarryBackSaid : Prop := carryBackRow.holds Try.pinned (OpenSpec.ofChange carryBackSpec)

/-- ITS FALSE NEIGHBOUR: 'it returns false'. Refute it at one input. -/
def carryBackWrong : ChangeSpec := { name := "carryBack", fn := fun _ => fun
  | [d1, d2] => { results := [.lit (.bool false)], args := [d1, d2] }
  | _ => none }
def CarryBackWrongFalsely : Prop := carryBackRow.holds Try.pinned (OpenSpec.ofChange carryBackWrong)

/-- 'watermeetlaw28.CarryRises': WHATEVER THE INPUT: true; the input reads as it did. -/
def carryRisesSpec : ChangeSpec := { name := "carryRises", fn := fun _ => fun
  | [d1, d2, d3] => { results := [.lit (.bool true)], args := [d1, d2, d3] }
  | _ => none }
def carryRisesRow : OpenClaim := { program := "ytbddbogdhkikoaa", sum := "f4b0dcc29d8706b6694d30ed60c941a7059c22b4a3cc954e507478d3bcacbe3e", func := "watermeet/watermeetlaw28.CarryRises", spec := "carryRises", unfollowed := true, recurses := true, apart := false }
def CarryRisesSaid : Prop := carryRisesRow.holds Try.pinned (OpenSpec.ofChange carryRisesSpec)

/-- ITS FALSE NEIGHBOUR: 'it returns false'. Refute it at one input. -/
def carryRisesWrong : ChangeSpec := { name := "carryRises", fn := fun _ => fun
  | [d1, d2, d3] => { results := [.lit (.bool false)], args := [d1, d2, d3] }
  | _ => none }
def CarryRisesWrongFalsely : Prop := carryRisesRow.holds Try.pinned (OpenSpec.ofChange carryRisesWrong)

/-- 'watermeetlaw28.CarryTwo': WHATEVER THE INPUT: true; the input reads as it did. -/
def carryTwoSpec : ChangeSpec := { name := "carryTwo", fn := fun _ => fun
  | [d1, d2, d3] => { results := [.lit (.bool true)], args := [d1, d2, d3] }
  | _ => none }
def carryTwoRow : OpenClaim := { program := "ytbddbogdhkikoaa", sum := "f4b0dcc29d8706b6694d30ed60c941a7059c22b4a3cc954e507478d3bcacbe3e", func := "watermeet/watermeetlaw28.CarryTwo", spec := "carryTwo", unfollowed := true, recurses := true, apart := false }
def CarryTwoSaid : Prop := carryTwoRow.holds Try.pinned (OpenSpec.ofChange carryTwoSpec)

/-- ITS FALSE NEIGHBOUR: 'it returns false'. Refute it at one input. -/
def carryTwoWrong : ChangeSpec := { name := "carryTwo", fn := fun _ => fun
  | [d1, d2, d3] => { results := [.lit (.bool false)], args := [d1, d2, d3] }
  | _ => none }
def CarryTwoWrongFalsely : Prop := carryTwoRow.holds Try.pinned (OpenSpec.ofChange carryTwoWrong)

/-- 'watermeetlaw28.CarryTrims': WHATEVER THE INPUT: true; the input reads as it did. -/
def carryTrimsSpec : ChangeSpec := { name := "carryTrims", fn := fun _ => fun
  | [d1, d2, d3] => { results := [.lit (.bool true)], args := [d1, d2, d3] }
  | _ => none }
def carryTrimsRow : OpenClaim := { program := "ytbddbogdhkikoaa", sum := "f4b0dcc29d8706b6694d30ed60c941a7059c22b4a3cc954e507478d3bcacbe3e", func := "watermeet/watermeetlaw28.CarryTrims", spec := "carryTrims", unfollowed := true, recurses := true, apart := false }
def CarryTrimsSaid : Prop := carryTrimsRow.holds Try.pinned (OpenSpec.ofChange carryTrimsSpec)

/-- ITS FALSE NEIGHBOUR: 'it returns false'. Refute it at one input. -/
def carryTrimsWrong : ChangeSpec := { name := "carryTrims", fn := fun _ => fun
  | [d1, d2, d3] => { results := [.lit (.bool false)], args := [d1, d2, d3] }
  | _ => none }
def CarryTrimsWrongFalsely : Prop := carryTrimsRow.holds Try.pinned (OpenSpec.ofChange carryTrimsWrong)

/-- 'watermeetlaw28.CarryGoes': WHATEVER THE INPUT: true; the input reads as it did. -/
def carryGoesSpec : ChangeSpec := { name := "carryGoes", fn := fun _ => fun
  | [d1, d2, d3, d4] => { results := [.lit (.bool true)], args := [d1, d2, d3, d4] }
  | _ => none }
def carryGoesRow : OpenClaim := { program := "ytbddbogdhkikoaa", sum := "f4b0dcc29d8706b6694d30ed60c941a7059c22b4a3cc954e507478d3bcacbe3e", func := "watermeet/watermeetlaw28.CarryGoes", spec := "carryGoes", unfollowed := true, recurses := true, apart := false }
def CarryGoesSaid : Prop := carryGoesRow.holds Try.pinned (OpenSpec.ofChange carryGoesSpec)

/-- ITS FALSE NEIGHBOUR: 'it returns false'. Refute it at one input. -/
def carryGoesWrong : ChangeSpec := { name := "carryGoes", fn := fun _ => fun
  | [d1, d2, d3, d4] => { results := [.lit (.bool false)], args := [d1, d2, d3, d4] }
  | _ => none }
def CarryGoesWrongFalsely : Prop := carryGoesRow.holds Try.pinned (OpenSpec.ofChange carryGoesWrong)

/- THE SECOND FORM. 'bulk': how many values and letters a reading holds, each counted each time it is reached (what is shared counts as often as it is met; a slice's spare places count too). A statement '..UptoSaid' is the law's where the arguments, and the package variables that the reading takes, are together of bulk at most 1048576: NARROWER than '..Said'. Prove '..Said' where nothing that the law and all that it calls make is longer than what came in: it says more and counts as full. Else prove '..UptoSaid'. A law counts once. -/
mutual
def uptoBulk {H : Type} : DataW H → Nat
  | .lit (.string bytes) => bytes.length + 1
  | .lit _ => 1
  | .nil => 1
  | .ptr d => uptoBulk d + 1
  | .slice elems spare => uptoBulkAll elems + uptoBulkAll spare + 1
  | .agg parts => uptoBulkAll parts + 1
  | .iface _ d => uptoBulk d + 1
  | .map entries => uptoBulkEntries entries + 1
  | .held _ => 1
def uptoBulkAll {H : Type} : List (DataW H) → Nat
  | [] => 0
  | d :: r => uptoBulk d + uptoBulkAll r
def uptoBulkEntries {H : Type} : List (Lit × DataW H) → Nat
  | [] => 0
  | x :: r => uptoBulkEntry x + uptoBulkEntries r
def uptoBulkEntry {H : Type} : Lit × DataW H → Nat
  | (.string bytes, d) => bytes.length + uptoBulk d + 1
  | (_, d) => uptoBulk d + 1
 end
def uptoSmall : (H : Type) → List (DataW H) → Bool := fun _ ds => decide (uptoBulkAll ds ≤ 1048576)
def OpenSpec.upto (s : _root_.Go.ChangeSpec) : _root_.Go.OpenSpec := { _root_.Go.OpenSpec.ofChange s with cond := some uptoSmall }

/-- 'watermeetlaw28.CarryMakes', WHERE WHAT IT READS IS OF BULK AT MOST 1048576: true; the input reads as it did. -/
def carryMakesUptoRow : OpenClaim := { program := "ytbddbogdhkikoaa", sum := "f4b0dcc29d8706b6694d30ed60c941a7059c22b4a3cc954e507478d3bcacbe3e", func := "watermeet/watermeetlaw28.CarryMakes", spec := "carryMakes", unfollowed := true, recurses := true, apart := false, narrowed := true }
def CarryMakesUptoSaid : Prop := carryMakesUptoRow.holds Try.pinned (OpenSpec.upto carryMakesSpec)

/-- 'watermeetlaw28.CarryTells', WHERE WHAT IT READS IS OF BULK AT MOST 1048576: true; the input reads as it did. -/
def carryTellsUptoRow : OpenClaim := { program := "ytbddbogdhkikoaa", sum := "f4b0dcc29d8706b6694d30ed60c941a7059c22b4a3cc954e507478d3bcacbe3e", func := "watermeet/watermeetlaw28.CarryTells", spec := "carryTells", unfollowed := true, recurses := true, apart := false, narrowed := true }
def CarryTellsUptoSaid : Prop := carryTellsUptoRow.holds Try.pinned (OpenSpec.upto carryTellsSpec)

/-- 'watermeetlaw28.CarryChains', WHERE WHAT IT READS IS OF BULK AT MOST 1048576: true; the input reads as it did. -/
def carryChainsUptoRow : OpenClaim := { program := "ytbddbogdhkikoaa", sum := "f4b0dcc29d8706b6694d30ed60c941a7059c22b4a3cc954e507478d3bcacbe3e", func := "watermeet/watermeetlaw28.CarryChains", spec := "carryChains", unfollowed := true, recurses := true, apart := false, narrowed := true }
def CarryChainsUptoSaid : Prop := carryChainsUptoRow.holds Try.pinned (OpenSpec.upto carryChainsSpec)

/-- 'watermeetlaw28.CarrySafe', WHERE WHAT IT READS IS OF BULK AT MOST 1048576: true; the input reads as it did. -/
def carrySafeUptoRow : OpenClaim := { program := "ytbddbogdhkikoaa", sum := "f4b0dcc29d8706b6694d30ed60c941a7059c22b4a3cc954e507478d3bcacbe3e", func := "watermeet/watermeetlaw28.CarrySafe", spec := "carrySafe", unfollowed := true, recurses := true, apart := false, narrowed := true }
def CarrySafeUptoSaid : Prop := carrySafeUptoRow.holds Try.pinned (OpenSpec.upto carrySafeSpec)

/-- 'watermeetlaw28.CarryBack', WHERE WHAT IT READS IS OF BULK AT MOST 1048576: true; the input reads as it did. -/
def carryBackUptoRow : OpenClaim := { program := "ytbddbogdhkikoaa", sum := "f4b0dcc29d8706b6694d30ed60c941a7059c22b4a3cc954e507478d3bcacbe3e", func := "watermeet/watermeetlaw28.CarryBack", spec := "carryBack", unfollowed := true, recurses := true, apart := false, narrowed := true }
def CarryBackUptoSaid : Prop := carryBackUptoRow.holds Try.pinned (OpenSpec.upto carryBackSpec)

/-- 'watermeetlaw28.CarryRises', WHERE WHAT IT READS IS OF BULK AT MOST 1048576: true; the input reads as it did. -/
def carryRisesUptoRow : OpenClaim := { program := "ytbddbogdhkikoaa", sum := "f4b0dcc29d8706b6694d30ed60c941a7059c22b4a3cc954e507478d3bcacbe3e", func := "watermeet/watermeetlaw28.CarryRises", spec := "carryRises", unfollowed := true, recurses := true, apart := false, narrowed := true }
def CarryRisesUptoSaid : Prop := carryRisesUptoRow.holds Try.pinned (OpenSpec.upto carryRisesSpec)

/-- 'watermeetlaw28.CarryTwo', WHERE WHAT IT READS IS OF BULK AT MOST 1048576: true; the input reads as it did. -/
def carryTwoUptoRow : OpenClaim := { program := "ytbddbogdhkikoaa", sum := "f4b0dcc29d8706b6694d30ed60c941a7059c22b4a3cc954e507478d3bcacbe3e", func := "watermeet/watermeetlaw28.CarryTwo", spec := "carryTwo", unfollowed := true, recurses := true, apart := false, narrowed := true }
def CarryTwoUptoSaid : Prop := carryTwoUptoRow.holds Try.pinned (OpenSpec.upto carryTwoSpec)

/-- 'watermeetlaw28.CarryTrims', WHERE WHAT IT READS IS OF BULK AT MOST 1048576: true; the input reads as it did. -/
def carryTrimsUptoRow : OpenClaim := { program := "ytbddbogdhkikoaa", sum := "f4b0dcc29d8706b6694d30ed60c941a7059c22b4a3cc954e507478d3bcacbe3e", func := "watermeet/watermeetlaw28.CarryTrims", spec := "carryTrims", unfollowed := true, recurses := true, apart := false, narrowed := true }
def CarryTrimsUptoSaid : Prop := carryTrimsUptoRow.holds Try.pinned (OpenSpec.upto carryTrimsSpec)

/-- 'watermeetlaw28.CarryGoes', WHERE WHAT IT READS IS OF BULK AT MOST 1048576: true; the input reads as it did. -/
def carryGoesUptoRow : OpenClaim := { program := "ytbddbogdhkikoaa", sum := "f4b0dcc29d8706b6694d30ed60c941a7059c22b4a3cc954e507478d3bcacbe3e", func := "watermeet/watermeetlaw28.CarryGoes", spec := "carryGoes", unfollowed := true, recurses := true, apart := false, narrowed := true }
def CarryGoesUptoSaid : Prop := carryGoesUptoRow.holds Try.pinned (OpenSpec.upto carryGoesSpec)

end Rows
end Go.Proofs.Ytbddbogdhkikoaa

/-
  No cell of these rows narrows 'for every input' (looked for: loops, veiled, ifaces, maps, wideKeys, modest, calm, conditions, laid).
  DERIVED. THE GIVEN ROWS OF THIS SEAT. 5 by the template 'for every input the law returns true; each argument reads behind the call as it read before'; 0 by the template 'total and deterministic' (their statements: YtfiigjdiohmkmaaTotals.lean).
  GIVEN WITH THE SEED: the statements are not yours to turn. If you find one false, say at which input.
  Laid BY PROGRAM, IN A SANDBOX (cutbox-rows.mjs): the forced cells as the released guide's own fill.sh prints them over the translation 7fe76c24a4128018… (all of the seat's roots in one cut). By AI agents, Wed Nov 11 2026. No macro, syntax, notation, axiom, sorry.
-/
import Derived.Test.YtfiigjdiohmkmaaChecked
import GoSem.Claim
import GoSem.ClaimJoined
import GoSem.ClaimMapViews
import Derived.JoinedTies
import Derived.KernelRfl
namespace Go.Proofs.Ytfiigjdiohmkmaa
/- THE CELL 'sum', in the pinned program and in every row, IS THE sha256 OF THE DUMP (.gsa) THAT YtfiigjdiohmkmaaProg.lean LOADS. Nothing in Lean hashes anything: it is a label: what it is worth is what the hold of that sum in a sandbox is worth. -/
noncomputable def Try.pinned : Pinned := { name := "ytfiigjdiohmkmaa", sum := "7fe76c24a4128018de7e9f73062643d164b47c7aa0fa9dcb9e336c5826cb45da", checked := Try.checked }
namespace Rows
def none {H : Type} : Left H := { results := [], args := [] }

/-- 'keylaw1.ProofsArePrinted': WHATEVER THE INPUT: true; the input reads as it did. -/
def proofsArePrintedSpec : ChangeSpec := { name := "proofsArePrinted", fn := fun _ => fun
  | [d1, d2] => { results := [.lit (.bool true)], args := [d1, d2] }
  | _ => none }
def proofsArePrintedRow : OpenClaim := { program := "ytfiigjdiohmkmaa", sum := "7fe76c24a4128018de7e9f73062643d164b47c7aa0fa9dcb9e336c5826cb45da", func := "keywarden/keylaw1.ProofsArePrinted", spec := "proofsArePrinted", apart := false }
def ProofsArePrintedSaid : Prop := proofsArePrintedRow.holds Try.pinned (OpenSpec.ofChange proofsArePrintedSpec)

/-- ITS FALSE NEIGHBOUR: 'it returns false'. Refute it at one input. -/
def proofsArePrintedWrong : ChangeSpec := { name := "proofsArePrinted", fn := fun _ => fun
  | [d1, d2] => { results := [.lit (.bool false)], args := [d1, d2] }
  | _ => none }
def ProofsArePrintedWrongFalsely : Prop := proofsArePrintedRow.holds Try.pinned (OpenSpec.ofChange proofsArePrintedWrong)

/-- 'keylaw1.RootsMatch': WHATEVER THE INPUT: true; the input reads as it did. -/
def rootsMatchSpec : ChangeSpec := { name := "rootsMatch", fn := fun _ => fun
  | [d1, d2, d3] => { results := [.lit (.bool true)], args := [d1, d2, d3] }
  | _ => none }
def rootsMatchRow : OpenClaim := { program := "ytfiigjdiohmkmaa", sum := "7fe76c24a4128018de7e9f73062643d164b47c7aa0fa9dcb9e336c5826cb45da", func := "keywarden/keylaw1.RootsMatch", spec := "rootsMatch", recurses := true, apart := false }
def RootsMatchSaid : Prop := rootsMatchRow.holds Try.pinned (OpenSpec.ofChange rootsMatchSpec)

/-- ITS FALSE NEIGHBOUR: 'it returns false'. Refute it at one input. -/
def rootsMatchWrong : ChangeSpec := { name := "rootsMatch", fn := fun _ => fun
  | [d1, d2, d3] => { results := [.lit (.bool false)], args := [d1, d2, d3] }
  | _ => none }
def RootsMatchWrongFalsely : Prop := rootsMatchRow.holds Try.pinned (OpenSpec.ofChange rootsMatchWrong)

/-- 'keylaw1.RawProofs': WHATEVER THE INPUT: true; the input reads as it did. -/
def rawProofsSpec : ChangeSpec := { name := "rawProofs", fn := fun _ => fun
  | [d1, d2, d3] => { results := [.lit (.bool true)], args := [d1, d2, d3] }
  | _ => none }
def rawProofsRow : OpenClaim := { program := "ytfiigjdiohmkmaa", sum := "7fe76c24a4128018de7e9f73062643d164b47c7aa0fa9dcb9e336c5826cb45da", func := "keywarden/keylaw1.RawProofs", spec := "rawProofs", recurses := true, apart := false }
def RawProofsSaid : Prop := rawProofsRow.holds Try.pinned (OpenSpec.ofChange rawProofsSpec)

/-- ITS FALSE NEIGHBOUR: 'it returns false'. Refute it at one input. -/
def rawProofsWrong : ChangeSpec := { name := "rawProofs", fn := fun _ => fun
  | [d1, d2, d3] => { results := [.lit (.bool false)], args := [d1, d2, d3] }
  | _ => none }
def RawProofsWrongFalsely : Prop := rawProofsRow.holds Try.pinned (OpenSpec.ofChange rawProofsWrong)

/-- 'keylaw1.RawGrowth': WHATEVER THE INPUT: true; the input reads as it did. -/
def rawGrowthSpec : ChangeSpec := { name := "rawGrowth", fn := fun _ => fun
  | [d1, d2, d3] => { results := [.lit (.bool true)], args := [d1, d2, d3] }
  | _ => none }
def rawGrowthRow : OpenClaim := { program := "ytfiigjdiohmkmaa", sum := "7fe76c24a4128018de7e9f73062643d164b47c7aa0fa9dcb9e336c5826cb45da", func := "keywarden/keylaw1.RawGrowth", spec := "rawGrowth", recurses := true, apart := false }
def RawGrowthSaid : Prop := rawGrowthRow.holds Try.pinned (OpenSpec.ofChange rawGrowthSpec)

/-- ITS FALSE NEIGHBOUR: 'it returns false'. Refute it at one input. -/
def rawGrowthWrong : ChangeSpec := { name := "rawGrowth", fn := fun _ => fun
  | [d1, d2, d3] => { results := [.lit (.bool false)], args := [d1, d2, d3] }
  | _ => none }
def RawGrowthWrongFalsely : Prop := rawGrowthRow.holds Try.pinned (OpenSpec.ofChange rawGrowthWrong)

/-- 'keylaw1.RawMapProofs': WHATEVER THE INPUT: true; the input reads as it did. -/
def rawMapProofsSpec : ChangeSpec := { name := "rawMapProofs", fn := fun _ => fun
  | [d1, d2, d3, d4, d5] => { results := [.lit (.bool true)], args := [d1, d2, d3, d4, d5] }
  | _ => none }
def rawMapProofsRow : OpenClaim := { program := "ytfiigjdiohmkmaa", sum := "7fe76c24a4128018de7e9f73062643d164b47c7aa0fa9dcb9e336c5826cb45da", func := "keywarden/keylaw1.RawMapProofs", spec := "rawMapProofs", recurses := true, apart := false }
def RawMapProofsSaid : Prop := rawMapProofsRow.holds Try.pinned (OpenSpec.ofChange rawMapProofsSpec)

/-- ITS FALSE NEIGHBOUR: 'it returns false'. Refute it at one input. -/
def rawMapProofsWrong : ChangeSpec := { name := "rawMapProofs", fn := fun _ => fun
  | [d1, d2, d3, d4, d5] => { results := [.lit (.bool false)], args := [d1, d2, d3, d4, d5] }
  | _ => none }
def RawMapProofsWrongFalsely : Prop := rawMapProofsRow.holds Try.pinned (OpenSpec.ofChange rawMapProofsWrong)

/- THE SECOND FORM. 'bulk': how many values and letters a reading holds, each counted each time it is reached (what is shared counts as often as it is met; a slice's spare places count too). A statement '..UptoSaid' is the law's where the arguments, and the package variables that the reading takes, are together of bulk at most 1048576: NARROWER than '..Said'. Prove '..Said' where nothing that the law and all that it calls make is longer than what came in: it says more and counts as full. Else prove '..UptoSaid'. A law counts once. -/
mutual
def uptoBulk {H : Type} : DataW H → Nat
  | .lit (.string bytes) => bytes.length + 1
  | .lit _ => 1
  | .nil => 1
  | .ptr d => uptoBulk d + 1
  | .slice elems spare => uptoBulkAll elems + uptoBulkAll spare + 1
  | .agg parts => uptoBulkAll parts + 1
  | .iface _ d => uptoBulk d + 1
  | .map entries => uptoBulkEntries entries + 1
  | .held _ => 1
def uptoBulkAll {H : Type} : List (DataW H) → Nat
  | [] => 0
  | d :: r => uptoBulk d + uptoBulkAll r
def uptoBulkEntries {H : Type} : List (Lit × DataW H) → Nat
  | [] => 0
  | x :: r => uptoBulkEntry x + uptoBulkEntries r
def uptoBulkEntry {H : Type} : Lit × DataW H → Nat
  | (.string bytes, d) => bytes.length + uptoBulk d + 1
  | (_, d) => uptoBulk d + 1
 end
def uptoSmall : (H : Type) → List (DataW H) → Bool := fun _ ds => decide (uptoBulkAll ds ≤ 1048576)
def OpenSpec.upto (s : _root_.Go.ChangeSpec) : _root_.Go.OpenSpec := { _root_.Go.OpenSpec.ofChange s with cond := some uptoSmall }

/-- 'keylaw1.ProofsArePrinted', WHERE WHAT IT READS IS OF BULK AT MOST 1048576: true; the input reads as it did. -/
def proofsArePrintedUptoRow : OpenClaim := { program := "ytfiigjdiohmkmaa", sum := "7fe76c24a4128018de7e9f73062643d164b47c7aa0fa9dcb9e336c5826cb45da", func := "keywarden/keylaw1.ProofsArePrinted", spec := "proofsArePrinted", apart := false, narrowed := true }
def ProofsArePrintedUptoSaid : Prop := proofsArePrintedUptoRow.holds Try.pinned (OpenSpec.upto proofsArePrintedSpec)

/-- 'keylaw1.RootsMatch', WHERE WHAT IT READS IS OF BULK AT MOST 1048576: true; the input reads as it did. -/
def rootsMatchUptoRow : OpenClaim := { program := "ytfiigjdiohmkmaa", sum := "7fe76c24a4128018de7e9f73062643d164b47c7aa0fa9dcb9e336c5826cb45da", func := "keywarden/keylaw1.RootsMatch", spec := "rootsMatch", recurses := true, apart := false, narrowed := true }
def RootsMatchUptoSaid : Prop := rootsMatchUptoRow.holds Try.pinned (OpenSpec.upto rootsMatchSpec)

/-- 'keylaw1.RawProofs', WHERE WHAT IT READS IS OF BULK AT MOST 1048576: true; the input reads as it did. -/
def rawProofsUptoRow : OpenClaim := { program := "ytfiigjdiohmkmaa", sum := "7fe76c24a4128018de7e9f73062643d164b47c7aa0fa9dcb9e336c5826cb45da", func := "keywarden/keylaw1.RawProofs", spec := "rawProofs", recurses := true, apart := false, narrowed := true }
def RawProofsUptoSaid : Prop := rawProofsUptoRow.holds Try.pinned (OpenSpec.upto rawProofsSpec)

/-- 'keylaw1.RawGrowth', WHERE WHAT IT READS IS OF BULK AT MOST 1048576: true; the input reads as it did. -/
def rawGrowthUptoRow : OpenClaim := { program := "ytfiigjdiohmkmaa", sum := "7fe76c24a4128018de7e9f73062643d164b47c7aa0fa9dcb9e336c5826cb45da", func := "keywarden/keylaw1.RawGrowth", spec := "rawGrowth", recurses := true, apart := false, narrowed := true }
def RawGrowthUptoSaid : Prop := rawGrowthUptoRow.holds Try.pinned (OpenSpec.upto rawGrowthSpec)

/-- 'keylaw1.RawMapProofs', WHERE WHAT IT READS IS OF BULK AT MOST 1048576: true; the input reads as it did. -/
def rawMapProofsUptoRow : OpenClaim := { program := "ytfiigjdiohmkmaa", sum := "7fe76c24a4128018de7e9f73062643d164b47c7aa0fa9dcb9e336c5826cb45da", func := "keywarden/keylaw1.RawMapProofs", spec := "rawMapProofs", recurses := true, apart := false, narrowed := true }
def RawMapProofsUptoSaid : Prop := rawMapProofsUptoRow.holds Try.pinned (OpenSpec.upto rawMapProofsSpec)

end Rows
end Go.Proofs.Ytfiigjdiohmkmaa

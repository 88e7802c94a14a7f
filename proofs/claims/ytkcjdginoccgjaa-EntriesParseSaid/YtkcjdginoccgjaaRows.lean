/-
  No cell of these rows narrows 'for every input' (looked for: loops, veiled, ifaces, maps, wideKeys, modest, calm, conditions, laid).
  DERIVED. THE GIVEN ROWS OF THIS SEAT. 6 by the template 'for every input the law returns true; each argument reads behind the call as it read before'; 0 by the template 'total and deterministic' (their statements: YtkcjdginoccgjaaTotals.lean).
  GIVEN WITH THE SEED: the statements are not yours to turn. If you find one false, say at which input.
  Laid BY PROGRAM, IN A SANDBOX (cutbox-rows.mjs): the forced cells as the released guide's own fill.sh prints them over the translation 1a3413b6785b8a85… (all of the seat's roots in one cut). By AI agents, Wed Nov 11 2026. No macro, syntax, notation, axiom, sorry.
-/
import Derived.Test.YtkcjdginoccgjaaChecked
import GoSem.Claim
import GoSem.ClaimJoined
import GoSem.ClaimMapViews
import Derived.JoinedTies
import Derived.KernelRfl
namespace Go.Proofs.Ytkcjdginoccgjaa
/- THE CELL 'sum', in the pinned program and in every row, IS THE sha256 OF THE DUMP (.gsa) THAT YtkcjdginoccgjaaProg.lean LOADS. Nothing in Lean hashes anything: it is a label: what it is worth is what the hold of that sum in a sandbox is worth. -/
noncomputable def Try.pinned : Pinned := { name := "ytkcjdginoccgjaa", sum := "1a3413b6785b8a858da81c48db5a10be55eaa4554b6cf426229596d0e04b78d1", checked := Try.checked }
namespace Rows
def none {H : Type} : Left H := { results := [], args := [] }

/-- 'keylaw1.SumsAreOrdered': WHATEVER THE INPUT: true; the input reads as it did. -/
def sumsAreOrderedSpec : ChangeSpec := { name := "sumsAreOrdered", fn := fun _ => fun
  | [d1, d2, d3, d4, d5] => { results := [.lit (.bool true)], args := [d1, d2, d3, d4, d5] }
  | _ => none }
def sumsAreOrderedRow : OpenClaim := { program := "ytkcjdginoccgjaa", sum := "1a3413b6785b8a858da81c48db5a10be55eaa4554b6cf426229596d0e04b78d1", func := "keywarden/keylaw1.SumsAreOrdered", spec := "sumsAreOrdered", inPlace := ["internal/bytealg.Compare"], unfollowed := true, recurses := true, plainKeys := false, apart := false }
def SumsAreOrderedSaid : Prop := sumsAreOrderedRow.holds Try.pinned (OpenSpec.ofChange sumsAreOrderedSpec)

/-- ITS FALSE NEIGHBOUR: 'it returns false'. Refute it at one input. -/
def sumsAreOrderedWrong : ChangeSpec := { name := "sumsAreOrdered", fn := fun _ => fun
  | [d1, d2, d3, d4, d5] => { results := [.lit (.bool false)], args := [d1, d2, d3, d4, d5] }
  | _ => none }
def SumsAreOrderedWrongFalsely : Prop := sumsAreOrderedRow.holds Try.pinned (OpenSpec.ofChange sumsAreOrderedWrong)

/-- 'keylaw1.MapsMatch': WHATEVER THE INPUT: true; the input reads as it did. -/
def mapsMatchSpec : ChangeSpec := { name := "mapsMatch", fn := fun _ => fun
  | [d] => { results := [.lit (.bool true)], args := [d] }
  | _ => none }
def mapsMatchRow : OpenClaim := { program := "ytkcjdginoccgjaa", sum := "1a3413b6785b8a858da81c48db5a10be55eaa4554b6cf426229596d0e04b78d1", func := "keywarden/keylaw1.MapsMatch", spec := "mapsMatch", inPlace := ["internal/bytealg.Compare"], unfollowed := true, recurses := true, plainKeys := false, apart := false }
def MapsMatchSaid : Prop := mapsMatchRow.holds Try.pinned (OpenSpec.ofChange mapsMatchSpec)

/-- ITS FALSE NEIGHBOUR: 'it returns false'. Refute it at one input. -/
def mapsMatchWrong : ChangeSpec := { name := "mapsMatch", fn := fun _ => fun
  | [d] => { results := [.lit (.bool false)], args := [d] }
  | _ => none }
def MapsMatchWrongFalsely : Prop := mapsMatchRow.holds Try.pinned (OpenSpec.ofChange mapsMatchWrong)

/-- 'keylaw1.MapsChange': WHATEVER THE INPUT: true; the input reads as it did. -/
def mapsChangeSpec : ChangeSpec := { name := "mapsChange", fn := fun _ => fun
  | [d1, d2, d3] => { results := [.lit (.bool true)], args := [d1, d2, d3] }
  | _ => none }
def mapsChangeRow : OpenClaim := { program := "ytkcjdginoccgjaa", sum := "1a3413b6785b8a858da81c48db5a10be55eaa4554b6cf426229596d0e04b78d1", func := "keywarden/keylaw1.MapsChange", spec := "mapsChange", inPlace := ["internal/bytealg.Compare"], unfollowed := true, recurses := true, plainKeys := false, apart := false }
def MapsChangeSaid : Prop := mapsChangeRow.holds Try.pinned (OpenSpec.ofChange mapsChangeSpec)

/-- ITS FALSE NEIGHBOUR: 'it returns false'. Refute it at one input. -/
def mapsChangeWrong : ChangeSpec := { name := "mapsChange", fn := fun _ => fun
  | [d1, d2, d3] => { results := [.lit (.bool false)], args := [d1, d2, d3] }
  | _ => none }
def MapsChangeWrongFalsely : Prop := mapsChangeRow.holds Try.pinned (OpenSpec.ofChange mapsChangeWrong)

/-- 'keylaw1.BodiesMatch': WHATEVER THE INPUT: true; the input reads as it did. -/
def bodiesMatchSpec : ChangeSpec := { name := "bodiesMatch", fn := fun _ => fun
  | [d1, d2, d3] => { results := [.lit (.bool true)], args := [d1, d2, d3] }
  | _ => none }
def bodiesMatchRow : OpenClaim := { program := "ytkcjdginoccgjaa", sum := "1a3413b6785b8a858da81c48db5a10be55eaa4554b6cf426229596d0e04b78d1", func := "keywarden/keylaw1.BodiesMatch", spec := "bodiesMatch", inPlace := ["internal/bytealg.Compare", "internal/bytealg.IndexByteString", "internal/bytealg.IndexString"], unfollowed := true, recurses := true, named := ["internal/bytealg.MaxLen"], plainKeys := false, apart := false }
def BodiesMatchSaid : Prop := bodiesMatchRow.holds Try.pinned (OpenSpec.ofChange bodiesMatchSpec)

/-- ITS FALSE NEIGHBOUR: 'it returns false'. Refute it at one input. -/
def bodiesMatchWrong : ChangeSpec := { name := "bodiesMatch", fn := fun _ => fun
  | [d1, d2, d3] => { results := [.lit (.bool false)], args := [d1, d2, d3] }
  | _ => none }
def BodiesMatchWrongFalsely : Prop := bodiesMatchRow.holds Try.pinned (OpenSpec.ofChange bodiesMatchWrong)

/-- 'keylaw1.EntriesParse': WHATEVER THE INPUT: true; the input reads as it did. -/
def entriesParseSpec : ChangeSpec := { name := "entriesParse", fn := fun _ => fun
  | [d1, d2, d3, d4, d5, d6] => { results := [.lit (.bool true)], args := [d1, d2, d3, d4, d5, d6] }
  | _ => none }
def entriesParseRow : OpenClaim := { program := "ytkcjdginoccgjaa", sum := "1a3413b6785b8a858da81c48db5a10be55eaa4554b6cf426229596d0e04b78d1", func := "keywarden/keylaw1.EntriesParse", spec := "entriesParse", inPlace := ["internal/bytealg.IndexByteString", "internal/bytealg.IndexString", "internal/bytealg.Compare"], unfollowed := true, recurses := true, named := ["internal/bytealg.MaxLen"], plainKeys := false, apart := false }
def EntriesParseSaid : Prop := entriesParseRow.holds Try.pinned (OpenSpec.ofChange entriesParseSpec)

/-- ITS FALSE NEIGHBOUR: 'it returns false'. Refute it at one input. -/
def entriesParseWrong : ChangeSpec := { name := "entriesParse", fn := fun _ => fun
  | [d1, d2, d3, d4, d5, d6] => { results := [.lit (.bool false)], args := [d1, d2, d3, d4, d5, d6] }
  | _ => none }
def EntriesParseWrongFalsely : Prop := entriesParseRow.holds Try.pinned (OpenSpec.ofChange entriesParseWrong)

/-- 'keylaw1.EntriesMatch': WHATEVER THE INPUT: true; the input reads as it did. -/
def entriesMatchSpec : ChangeSpec := { name := "entriesMatch", fn := fun _ => fun
  | [d1, d2, d3] => { results := [.lit (.bool true)], args := [d1, d2, d3] }
  | _ => none }
def entriesMatchRow : OpenClaim := { program := "ytkcjdginoccgjaa", sum := "1a3413b6785b8a858da81c48db5a10be55eaa4554b6cf426229596d0e04b78d1", func := "keywarden/keylaw1.EntriesMatch", spec := "entriesMatch", inPlace := ["internal/bytealg.Compare", "internal/bytealg.IndexByteString", "internal/bytealg.IndexString"], unfollowed := true, recurses := true, named := ["internal/bytealg.MaxLen"], plainKeys := false, apart := false }
def EntriesMatchSaid : Prop := entriesMatchRow.holds Try.pinned (OpenSpec.ofChange entriesMatchSpec)

/-- ITS FALSE NEIGHBOUR: 'it returns false'. Refute it at one input. -/
def entriesMatchWrong : ChangeSpec := { name := "entriesMatch", fn := fun _ => fun
  | [d1, d2, d3] => { results := [.lit (.bool false)], args := [d1, d2, d3] }
  | _ => none }
def EntriesMatchWrongFalsely : Prop := entriesMatchRow.holds Try.pinned (OpenSpec.ofChange entriesMatchWrong)

/- THE SECOND FORM. 'bulk': how many values and letters a reading holds, each counted each time it is reached (what is shared counts as often as it is met; a slice's spare places count too). A statement '..UptoSaid' is the law's where the arguments, and the package variables that the reading takes, are together of bulk at most 1048576: NARROWER than '..Said'. Prove '..Said' where nothing that the law and all that it calls make is longer than what came in: it says more and counts as full. Else prove '..UptoSaid'. A law counts once. -/
mutual
def uptoBulk {H : Type} : DataW H → Nat
  | .lit (.string bytes) => bytes.length + 1
  | .lit _ => 1
  | .nil => 1
  | .ptr d => uptoBulk d + 1
  | .slice elems spare => uptoBulkAll elems + uptoBulkAll spare + 1
  | .agg parts => uptoBulkAll parts + 1
  | .iface _ d => uptoBulk d + 1
  | .map entries => uptoBulkEntries entries + 1
  | .held _ => 1
def uptoBulkAll {H : Type} : List (DataW H) → Nat
  | [] => 0
  | d :: r => uptoBulk d + uptoBulkAll r
def uptoBulkEntries {H : Type} : List (Lit × DataW H) → Nat
  | [] => 0
  | x :: r => uptoBulkEntry x + uptoBulkEntries r
def uptoBulkEntry {H : Type} : Lit × DataW H → Nat
  | (.string bytes, d) => bytes.length + uptoBulk d + 1
  | (_, d) => uptoBulk d + 1
 end
def uptoSmall : (H : Type) → List (DataW H) → Bool := fun _ ds => decide (uptoBulkAll ds ≤ 1048576)
def OpenSpec.upto (s : _root_.Go.ChangeSpec) : _root_.Go.OpenSpec := { _root_.Go.OpenSpec.ofChange s with cond := some uptoSmall }

/-- 'keylaw1.SumsAreOrdered', WHERE WHAT IT READS IS OF BULK AT MOST 1048576: true; the input reads as it did. -/
def sumsAreOrderedUptoRow : OpenClaim := { program := "ytkcjdginoccgjaa", sum := "1a3413b6785b8a858da81c48db5a10be55eaa4554b6cf426229596d0e04b78d1", func := "keywarden/keylaw1.SumsAreOrdered", spec := "sumsAreOrdered", inPlace := ["internal/bytealg.Compare"], unfollowed := true, recurses := true, plainKeys := false, apart := false, narrowed := true }
def SumsAreOrderedUptoSaid : Prop := sumsAreOrderedUptoRow.holds Try.pinned (OpenSpec.upto sumsAreOrderedSpec)

/-- 'keylaw1.MapsMatch', WHERE WHAT IT READS IS OF BULK AT MOST 1048576: true; the input reads as it did. -/
def mapsMatchUptoRow : OpenClaim := { program := "ytkcjdginoccgjaa", sum := "1a3413b6785b8a858da81c48db5a10be55eaa4554b6cf426229596d0e04b78d1", func := "keywarden/keylaw1.MapsMatch", spec := "mapsMatch", inPlace := ["internal/bytealg.Compare"], unfollowed := true, recurses := true, plainKeys := false, apart := false, narrowed := true }
def MapsMatchUptoSaid : Prop := mapsMatchUptoRow.holds Try.pinned (OpenSpec.upto mapsMatchSpec)

/-- 'keylaw1.MapsChange', WHERE WHAT IT READS IS OF BULK AT MOST 1048576: true; the input reads as it did. -/
def mapsChangeUptoRow : OpenClaim := { program := "ytkcjdginoccgjaa", sum := "1a3413b6785b8a858da81c48db5a10be55eaa4554b6cf426229596d0e04b78d1", func := "keywarden/keylaw1.MapsChange", spec := "mapsChange", inPlace := ["internal/bytealg.Compare"], unfollowed := true, recurses := true, plainKeys := false, apart := false, narrowed := true }
def MapsChangeUptoSaid : Prop := mapsChangeUptoRow.holds Try.pinned (OpenSpec.upto mapsChangeSpec)

/-- 'keylaw1.BodiesMatch', WHERE WHAT IT READS IS OF BULK AT MOST 1048576: true; the input reads as it did. -/
def bodiesMatchUptoRow : OpenClaim := { program := "ytkcjdginoccgjaa", sum := "1a3413b6785b8a858da81c48db5a10be55eaa4554b6cf426229596d0e04b78d1", func := "keywarden/keylaw1.BodiesMatch", spec := "bodiesMatch", inPlace := ["internal/bytealg.Compare", "internal/bytealg.IndexByteString", "internal/bytealg.IndexString"], unfollowed := true, recurses := true, named := ["internal/bytealg.MaxLen"], plainKeys := false, apart := false, narrowed := true }
def BodiesMatchUptoSaid : Prop := bodiesMatchUptoRow.holds Try.pinned (OpenSpec.upto bodiesMatchSpec)

/-- 'keylaw1.EntriesParse', WHERE WHAT IT READS IS OF BULK AT MOST 1048576: true; the input reads as it did. -/
def entriesParseUptoRow : OpenClaim := { program := "ytkcjdginoccgjaa", sum := "1a3413b6785b8a858da81c48db5a10be55eaa4554b6cf426229596d0e04b78d1", func := "keywarden/keylaw1.EntriesParse", spec := "entriesParse", inPlace := ["internal/bytealg.IndexByteString", "internal/bytealg.IndexString", "internal/bytealg.Compare"], unfollowed := true, recurses := true, named := ["internal/bytealg.MaxLen"], plainKeys := false, apart := false, narrowed := true }
def EntriesParseUptoSaid : Prop := entriesParseUptoRow.holds Try.pinned (OpenSpec.upto entriesParseSpec)

/-- 'keylaw1.EntriesMatch', WHERE WHAT IT READS IS OF BULK AT MOST 1048576: true; the input reads as it did. -/
def entriesMatchUptoRow : OpenClaim := { program := "ytkcjdginoccgjaa", sum := "1a3413b6785b8a858da81c48db5a10be55eaa4554b6cf426229596d0e04b78d1", func := "keywarden/keylaw1.EntriesMatch", spec := "entriesMatch", inPlace := ["internal/bytealg.Compare", "internal/bytealg.IndexByteString", "internal/bytealg.IndexString"], unfollowed := true, recurses := true, named := ["internal/bytealg.MaxLen"], plainKeys := false, apart := false, narrowed := true }
def EntriesMatchUptoSaid : Prop := entriesMatchUptoRow.holds Try.pinned (OpenSpec.upto entriesMatchSpec)

end Rows
end Go.Proofs.Ytkcjdginoccgjaa

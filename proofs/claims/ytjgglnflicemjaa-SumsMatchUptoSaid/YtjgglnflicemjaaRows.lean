/-
  No cell of these rows narrows 'for every input' (looked for: loops, veiled, ifaces, maps, wideKeys, modest, calm, conditions, laid).
  DERIVED. THE GIVEN ROWS OF THIS SEAT. 10 by the template 'for every input the law returns true; each argument reads behind the call as it read before'; 0 by the template 'total and deterministic' (their statements: YtjgglnflicemjaaTotals.lean).
  GIVEN WITH THE SEED: the statements are not yours to turn. If you find one false, say at which input.
  Laid BY PROGRAM, IN A SANDBOX (cutbox-rows.mjs): the forced cells as the released guide's own fill.sh prints them over the translation efcaaff5680f57fe… (all of the seat's roots in one cut). By AI agents, Wed Nov 11 2026. No macro, syntax, notation, axiom, sorry.
-/
import Derived.Test.YtjgglnflicemjaaChecked
import GoSem.Claim
import GoSem.ClaimJoined
import GoSem.ClaimMapViews
import Derived.JoinedTies
import Derived.KernelRfl
namespace Go.Proofs.Ytjgglnflicemjaa
/- THE CELL 'sum', in the pinned program and in every row, IS THE sha256 OF THE DUMP (.gsa) THAT YtjgglnflicemjaaProg.lean LOADS. Nothing in Lean hashes anything: it is a label: what it is worth is what the hold of that sum in a sandbox is worth. -/
noncomputable def Try.pinned : Pinned := { name := "ytjgglnflicemjaa", sum := "efcaaff5680f57fe1597f00bf5f902b18693e9c6cd86fb6859d09e5f63743858", checked := Try.checked }
namespace Rows
def none {H : Type} : Left H := { results := [], args := [] }

/-- 'keylaw1.StirringMatches': WHATEVER THE INPUT: true; the input reads as it did. -/
def stirringMatchesSpec : ChangeSpec := { name := "stirringMatches", fn := fun _ => fun
  | [d] => { results := [.lit (.bool true)], args := [d] }
  | _ => none }
def stirringMatchesRow : OpenClaim := { program := "ytjgglnflicemjaa", sum := "efcaaff5680f57fe1597f00bf5f902b18693e9c6cd86fb6859d09e5f63743858", func := "keywarden/keylaw1.StirringMatches", spec := "stirringMatches", plainKeys := false, apart := false }
def StirringMatchesSaid : Prop := stirringMatchesRow.holds Try.pinned (OpenSpec.ofChange stirringMatchesSpec)

/-- ITS FALSE NEIGHBOUR: 'it returns false'. Refute it at one input. -/
def stirringMatchesWrong : ChangeSpec := { name := "stirringMatches", fn := fun _ => fun
  | [d] => { results := [.lit (.bool false)], args := [d] }
  | _ => none }
def StirringMatchesWrongFalsely : Prop := stirringMatchesRow.holds Try.pinned (OpenSpec.ofChange stirringMatchesWrong)

/-- 'keylaw1.OctetsAreTaken': WHATEVER THE INPUT: true; the input reads as it did. -/
def octetsAreTakenSpec : ChangeSpec := { name := "octetsAreTaken", fn := fun _ => fun
  | [d1, d2, d3, d4] => { results := [.lit (.bool true)], args := [d1, d2, d3, d4] }
  | _ => none }
def octetsAreTakenRow : OpenClaim := { program := "ytjgglnflicemjaa", sum := "efcaaff5680f57fe1597f00bf5f902b18693e9c6cd86fb6859d09e5f63743858", func := "keywarden/keylaw1.OctetsAreTaken", spec := "octetsAreTaken", plainKeys := false, apart := false }
def OctetsAreTakenSaid : Prop := octetsAreTakenRow.holds Try.pinned (OpenSpec.ofChange octetsAreTakenSpec)

/-- ITS FALSE NEIGHBOUR: 'it returns false'. Refute it at one input. -/
def octetsAreTakenWrong : ChangeSpec := { name := "octetsAreTaken", fn := fun _ => fun
  | [d1, d2, d3, d4] => { results := [.lit (.bool false)], args := [d1, d2, d3, d4] }
  | _ => none }
def OctetsAreTakenWrongFalsely : Prop := octetsAreTakenRow.holds Try.pinned (OpenSpec.ofChange octetsAreTakenWrong)

/-- 'keylaw1.NumbersArePut': WHATEVER THE INPUT: true; the input reads as it did. -/
def numbersArePutSpec : ChangeSpec := { name := "numbersArePut", fn := fun _ => fun
  | [d1, d2, d3, d4] => { results := [.lit (.bool true)], args := [d1, d2, d3, d4] }
  | _ => none }
def numbersArePutRow : OpenClaim := { program := "ytjgglnflicemjaa", sum := "efcaaff5680f57fe1597f00bf5f902b18693e9c6cd86fb6859d09e5f63743858", func := "keywarden/keylaw1.NumbersArePut", spec := "numbersArePut", plainKeys := false, apart := false }
def NumbersArePutSaid : Prop := numbersArePutRow.holds Try.pinned (OpenSpec.ofChange numbersArePutSpec)

/-- ITS FALSE NEIGHBOUR: 'it returns false'. Refute it at one input. -/
def numbersArePutWrong : ChangeSpec := { name := "numbersArePut", fn := fun _ => fun
  | [d1, d2, d3, d4] => { results := [.lit (.bool false)], args := [d1, d2, d3, d4] }
  | _ => none }
def NumbersArePutWrongFalsely : Prop := numbersArePutRow.holds Try.pinned (OpenSpec.ofChange numbersArePutWrong)

/-- 'keylaw1.StreamsMatch': WHATEVER THE INPUT: true; the input reads as it did. -/
def streamsMatchSpec : ChangeSpec := { name := "streamsMatch", fn := fun _ => fun
  | [d1, d2, d3, d4, d5] => { results := [.lit (.bool true)], args := [d1, d2, d3, d4, d5] }
  | _ => none }
def streamsMatchRow : OpenClaim := { program := "ytjgglnflicemjaa", sum := "efcaaff5680f57fe1597f00bf5f902b18693e9c6cd86fb6859d09e5f63743858", func := "keywarden/keylaw1.StreamsMatch", spec := "streamsMatch", plainKeys := false, apart := false }
def StreamsMatchSaid : Prop := streamsMatchRow.holds Try.pinned (OpenSpec.ofChange streamsMatchSpec)

/-- ITS FALSE NEIGHBOUR: 'it returns false'. Refute it at one input. -/
def streamsMatchWrong : ChangeSpec := { name := "streamsMatch", fn := fun _ => fun
  | [d1, d2, d3, d4, d5] => { results := [.lit (.bool false)], args := [d1, d2, d3, d4, d5] }
  | _ => none }
def StreamsMatchWrongFalsely : Prop := streamsMatchRow.holds Try.pinned (OpenSpec.ofChange streamsMatchWrong)

/-- 'keylaw1.SummersAreBounded': WHATEVER THE INPUT: true; the input reads as it did. -/
def summersAreBoundedSpec : ChangeSpec := { name := "summersAreBounded", fn := fun _ => fun
  | [d1, d2, d3] => { results := [.lit (.bool true)], args := [d1, d2, d3] }
  | _ => none }
def summersAreBoundedRow : OpenClaim := { program := "ytjgglnflicemjaa", sum := "efcaaff5680f57fe1597f00bf5f902b18693e9c6cd86fb6859d09e5f63743858", func := "keywarden/keylaw1.SummersAreBounded", spec := "summersAreBounded", plainKeys := false, apart := false }
def SummersAreBoundedSaid : Prop := summersAreBoundedRow.holds Try.pinned (OpenSpec.ofChange summersAreBoundedSpec)

/-- ITS FALSE NEIGHBOUR: 'it returns false'. Refute it at one input. -/
def summersAreBoundedWrong : ChangeSpec := { name := "summersAreBounded", fn := fun _ => fun
  | [d1, d2, d3] => { results := [.lit (.bool false)], args := [d1, d2, d3] }
  | _ => none }
def SummersAreBoundedWrongFalsely : Prop := summersAreBoundedRow.holds Try.pinned (OpenSpec.ofChange summersAreBoundedWrong)

/-- 'keylaw1.SummersMatch': WHATEVER THE INPUT: true; the input reads as it did. -/
def summersMatchSpec : ChangeSpec := { name := "summersMatch", fn := fun _ => fun
  | [d1, d2, d3] => { results := [.lit (.bool true)], args := [d1, d2, d3] }
  | _ => none }
def summersMatchRow : OpenClaim := { program := "ytjgglnflicemjaa", sum := "efcaaff5680f57fe1597f00bf5f902b18693e9c6cd86fb6859d09e5f63743858", func := "keywarden/keylaw1.SummersMatch", spec := "summersMatch", plainKeys := false, apart := false }
def SummersMatchSaid : Prop := summersMatchRow.holds Try.pinned (OpenSpec.ofChange summersMatchSpec)

/-- ITS FALSE NEIGHBOUR: 'it returns false'. Refute it at one input. -/
def summersMatchWrong : ChangeSpec := { name := "summersMatch", fn := fun _ => fun
  | [d1, d2, d3] => { results := [.lit (.bool false)], args := [d1, d2, d3] }
  | _ => none }
def SummersMatchWrongFalsely : Prop := summersMatchRow.holds Try.pinned (OpenSpec.ofChange summersMatchWrong)

/-- 'keylaw1.TagsMatch': WHATEVER THE INPUT: true; the input reads as it did. -/
def tagsMatchSpec : ChangeSpec := { name := "tagsMatch", fn := fun _ => fun
  | [d1, d2] => { results := [.lit (.bool true)], args := [d1, d2] }
  | _ => none }
def tagsMatchRow : OpenClaim := { program := "ytjgglnflicemjaa", sum := "efcaaff5680f57fe1597f00bf5f902b18693e9c6cd86fb6859d09e5f63743858", func := "keywarden/keylaw1.TagsMatch", spec := "tagsMatch", plainKeys := false, apart := false }
def TagsMatchSaid : Prop := tagsMatchRow.holds Try.pinned (OpenSpec.ofChange tagsMatchSpec)

/-- ITS FALSE NEIGHBOUR: 'it returns false'. Refute it at one input. -/
def tagsMatchWrong : ChangeSpec := { name := "tagsMatch", fn := fun _ => fun
  | [d1, d2] => { results := [.lit (.bool false)], args := [d1, d2] }
  | _ => none }
def TagsMatchWrongFalsely : Prop := tagsMatchRow.holds Try.pinned (OpenSpec.ofChange tagsMatchWrong)

/-- 'keylaw1.SumsMatch': WHATEVER THE INPUT: true; the input reads as it did. -/
def sumsMatchSpec : ChangeSpec := { name := "sumsMatch", fn := fun _ => fun
  | [d1, d2, d3] => { results := [.lit (.bool true)], args := [d1, d2, d3] }
  | _ => none }
def sumsMatchRow : OpenClaim := { program := "ytjgglnflicemjaa", sum := "efcaaff5680f57fe1597f00bf5f902b18693e9c6cd86fb6859d09e5f63743858", func := "keywarden/keylaw1.SumsMatch", spec := "sumsMatch", plainKeys := false, apart := false }
def SumsMatchSaid : Prop := sumsMatchRow.holds Try.pinned (OpenSpec.ofChange sumsMatchSpec)

/-- ITS FALSE NEIGHBOUR: 'it returns false'. Refute it at one input. -/
def sumsMatchWrong : ChangeSpec := { name := "sumsMatch", fn := fun _ => fun
  | [d1, d2, d3] => { results := [.lit (.bool false)], args := [d1, d2, d3] }
  | _ => none }
def SumsMatchWrongFalsely : Prop := sumsMatchRow.holds Try.pinned (OpenSpec.ofChange sumsMatchWrong)

/-- 'keylaw1.KeysAreDerived': WHATEVER THE INPUT: true; the input reads as it did. -/
def keysAreDerivedSpec : ChangeSpec := { name := "keysAreDerived", fn := fun _ => fun
  | [d1, d2, d3] => { results := [.lit (.bool true)], args := [d1, d2, d3] }
  | _ => none }
def keysAreDerivedRow : OpenClaim := { program := "ytjgglnflicemjaa", sum := "efcaaff5680f57fe1597f00bf5f902b18693e9c6cd86fb6859d09e5f63743858", func := "keywarden/keylaw1.KeysAreDerived", spec := "keysAreDerived", inPlace := ["internal/bytealg.IndexByteString", "internal/bytealg.IndexString"], unfollowed := true, recurses := true, named := ["internal/bytealg.MaxLen"], plainKeys := false, apart := false }
def KeysAreDerivedSaid : Prop := keysAreDerivedRow.holds Try.pinned (OpenSpec.ofChange keysAreDerivedSpec)

/-- ITS FALSE NEIGHBOUR: 'it returns false'. Refute it at one input. -/
def keysAreDerivedWrong : ChangeSpec := { name := "keysAreDerived", fn := fun _ => fun
  | [d1, d2, d3] => { results := [.lit (.bool false)], args := [d1, d2, d3] }
  | _ => none }
def KeysAreDerivedWrongFalsely : Prop := keysAreDerivedRow.holds Try.pinned (OpenSpec.ofChange keysAreDerivedWrong)

/-- 'keylaw1.SumsAreOrdered': WHATEVER THE INPUT: true; the input reads as it did. -/
def sumsAreOrderedSpec : ChangeSpec := { name := "sumsAreOrdered", fn := fun _ => fun
  | [d1, d2, d3, d4, d5] => { results := [.lit (.bool true)], args := [d1, d2, d3, d4, d5] }
  | _ => none }
def sumsAreOrderedRow : OpenClaim := { program := "ytjgglnflicemjaa", sum := "efcaaff5680f57fe1597f00bf5f902b18693e9c6cd86fb6859d09e5f63743858", func := "keywarden/keylaw1.SumsAreOrdered", spec := "sumsAreOrdered", inPlace := ["internal/bytealg.Compare"], unfollowed := true, recurses := true, plainKeys := false, apart := false }
def SumsAreOrderedSaid : Prop := sumsAreOrderedRow.holds Try.pinned (OpenSpec.ofChange sumsAreOrderedSpec)

/-- ITS FALSE NEIGHBOUR: 'it returns false'. Refute it at one input. -/
def sumsAreOrderedWrong : ChangeSpec := { name := "sumsAreOrdered", fn := fun _ => fun
  | [d1, d2, d3, d4, d5] => { results := [.lit (.bool false)], args := [d1, d2, d3, d4, d5] }
  | _ => none }
def SumsAreOrderedWrongFalsely : Prop := sumsAreOrderedRow.holds Try.pinned (OpenSpec.ofChange sumsAreOrderedWrong)

/- THE SECOND FORM. 'bulk': how many values and letters a reading holds, each counted each time it is reached (what is shared counts as often as it is met; a slice's spare places count too). A statement '..UptoSaid' is the law's where the arguments, and the package variables that the reading takes, are together of bulk at most 1048576: NARROWER than '..Said'. Prove '..Said' where nothing that the law and all that it calls make is longer than what came in: it says more and counts as full. Else prove '..UptoSaid'. A law counts once. -/
mutual
def uptoBulk {H : Type} : DataW H → Nat
  | .lit (.string bytes) => bytes.length + 1
  | .lit _ => 1
  | .nil => 1
  | .ptr d => uptoBulk d + 1
  | .slice elems spare => uptoBulkAll elems + uptoBulkAll spare + 1
  | .agg parts => uptoBulkAll parts + 1
  | .iface _ d => uptoBulk d + 1
  | .map entries => uptoBulkEntries entries + 1
  | .held _ => 1
def uptoBulkAll {H : Type} : List (DataW H) → Nat
  | [] => 0
  | d :: r => uptoBulk d + uptoBulkAll r
def uptoBulkEntries {H : Type} : List (Lit × DataW H) → Nat
  | [] => 0
  | x :: r => uptoBulkEntry x + uptoBulkEntries r
def uptoBulkEntry {H : Type} : Lit × DataW H → Nat
  | (.string bytes, d) => bytes.length + uptoBulk d + 1
  | (_, d) => uptoBulk d + 1
 end
def uptoSmall : (H : Type) → List (DataW H) → Bool := fun _ ds => decide (uptoBulkAll ds ≤ 1048576)
def OpenSpec.upto (s : _root_.Go.ChangeSpec) : _root_.Go.OpenSpec := { _root_.Go.OpenSpec.ofChange s with cond := some uptoSmall }

/-- 'keylaw1.StirringMatches', WHERE WHAT IT READS IS OF BULK AT MOST 1048576: true; the input reads as it did. -/
def stirringMatchesUptoRow : OpenClaim := { program := "ytjgglnflicemjaa", sum := "efcaaff5680f57fe1597f00bf5f902b18693e9c6cd86fb6859d09e5f63743858", func := "keywarden/keylaw1.StirringMatches", spec := "stirringMatches", plainKeys := false, apart := false, narrowed := true }
def StirringMatchesUptoSaid : Prop := stirringMatchesUptoRow.holds Try.pinned (OpenSpec.upto stirringMatchesSpec)

/-- 'keylaw1.OctetsAreTaken', WHERE WHAT IT READS IS OF BULK AT MOST 1048576: true; the input reads as it did. -/
def octetsAreTakenUptoRow : OpenClaim := { program := "ytjgglnflicemjaa", sum := "efcaaff5680f57fe1597f00bf5f902b18693e9c6cd86fb6859d09e5f63743858", func := "keywarden/keylaw1.OctetsAreTaken", spec := "octetsAreTaken", plainKeys := false, apart := false, narrowed := true }
def OctetsAreTakenUptoSaid : Prop := octetsAreTakenUptoRow.holds Try.pinned (OpenSpec.upto octetsAreTakenSpec)

/-- 'keylaw1.NumbersArePut', WHERE WHAT IT READS IS OF BULK AT MOST 1048576: true; the input reads as it did. -/
def numbersArePutUptoRow : OpenClaim := { program := "ytjgglnflicemjaa", sum := "efcaaff5680f57fe1597f00bf5f902b18693e9c6cd86fb6859d09e5f63743858", func := "keywarden/keylaw1.NumbersArePut", spec := "numbersArePut", plainKeys := false, apart := false, narrowed := true }
def NumbersArePutUptoSaid : Prop := numbersArePutUptoRow.holds Try.pinned (OpenSpec.upto numbersArePutSpec)

/-- 'keylaw1.StreamsMatch', WHERE WHAT IT READS IS OF BULK AT MOST 1048576: true; the input reads as it did. -/
def streamsMatchUptoRow : OpenClaim := { program := "ytjgglnflicemjaa", sum := "efcaaff5680f57fe1597f00bf5f902b18693e9c6cd86fb6859d09e5f63743858", func := "keywarden/keylaw1.StreamsMatch", spec := "streamsMatch", plainKeys := false, apart := false, narrowed := true }
def StreamsMatchUptoSaid : Prop := streamsMatchUptoRow.holds Try.pinned (OpenSpec.upto streamsMatchSpec)

/-- 'keylaw1.SummersAreBounded', WHERE WHAT IT READS IS OF BULK AT MOST 1048576: true; the input reads as it did. -/
def summersAreBoundedUptoRow : OpenClaim := { program := "ytjgglnflicemjaa", sum := "efcaaff5680f57fe1597f00bf5f902b18693e9c6cd86fb6859d09e5f63743858", func := "keywarden/keylaw1.SummersAreBounded", spec := "summersAreBounded", plainKeys := false, apart := false, narrowed := true }
def SummersAreBoundedUptoSaid : Prop := summersAreBoundedUptoRow.holds Try.pinned (OpenSpec.upto summersAreBoundedSpec)

/-- 'keylaw1.SummersMatch', WHERE WHAT IT READS IS OF BULK AT MOST 1048576: true; the input reads as it did. -/
def summersMatchUptoRow : OpenClaim := { program := "ytjgglnflicemjaa", sum := "efcaaff5680f57fe1597f00bf5f902b18693e9c6cd86fb6859d09e5f63743858", func := "keywarden/keylaw1.SummersMatch", spec := "summersMatch", plainKeys := false, apart := false, narrowed := true }
def SummersMatchUptoSaid : Prop := summersMatchUptoRow.holds Try.pinned (OpenSpec.upto summersMatchSpec)

/-- 'keylaw1.TagsMatch', WHERE WHAT IT READS IS OF BULK AT MOST 1048576: true; the input reads as it did. -/
def tagsMatchUptoRow : OpenClaim := { program := "ytjgglnflicemjaa", sum := "efcaaff5680f57fe1597f00bf5f902b18693e9c6cd86fb6859d09e5f63743858", func := "keywarden/keylaw1.TagsMatch", spec := "tagsMatch", plainKeys := false, apart := false, narrowed := true }
def TagsMatchUptoSaid : Prop := tagsMatchUptoRow.holds Try.pinned (OpenSpec.upto tagsMatchSpec)

/-- 'keylaw1.SumsMatch', WHERE WHAT IT READS IS OF BULK AT MOST 1048576: true; the input reads as it did. -/
def sumsMatchUptoRow : OpenClaim := { program := "ytjgglnflicemjaa", sum := "efcaaff5680f57fe1597f00bf5f902b18693e9c6cd86fb6859d09e5f63743858", func := "keywarden/keylaw1.SumsMatch", spec := "sumsMatch", plainKeys := false, apart := false, narrowed := true }
def SumsMatchUptoSaid : Prop := sumsMatchUptoRow.holds Try.pinned (OpenSpec.upto sumsMatchSpec)

/-- 'keylaw1.KeysAreDerived', WHERE WHAT IT READS IS OF BULK AT MOST 1048576: true; the input reads as it did. -/
def keysAreDerivedUptoRow : OpenClaim := { program := "ytjgglnflicemjaa", sum := "efcaaff5680f57fe1597f00bf5f902b18693e9c6cd86fb6859d09e5f63743858", func := "keywarden/keylaw1.KeysAreDerived", spec := "keysAreDerived", inPlace := ["internal/bytealg.IndexByteString", "internal/bytealg.IndexString"], unfollowed := true, recurses := true, named := ["internal/bytealg.MaxLen"], plainKeys := false, apart := false, narrowed := true }
def KeysAreDerivedUptoSaid : Prop := keysAreDerivedUptoRow.holds Try.pinned (OpenSpec.upto keysAreDerivedSpec)

/-- 'keylaw1.SumsAreOrdered', WHERE WHAT IT READS IS OF BULK AT MOST 1048576: true; the input reads as it did. -/
def sumsAreOrderedUptoRow : OpenClaim := { program := "ytjgglnflicemjaa", sum := "efcaaff5680f57fe1597f00bf5f902b18693e9c6cd86fb6859d09e5f63743858", func := "keywarden/keylaw1.SumsAreOrdered", spec := "sumsAreOrdered", inPlace := ["internal/bytealg.Compare"], unfollowed := true, recurses := true, plainKeys := false, apart := false, narrowed := true }
def SumsAreOrderedUptoSaid : Prop := sumsAreOrderedUptoRow.holds Try.pinned (OpenSpec.upto sumsAreOrderedSpec)

end Rows
end Go.Proofs.Ytjgglnflicemjaa

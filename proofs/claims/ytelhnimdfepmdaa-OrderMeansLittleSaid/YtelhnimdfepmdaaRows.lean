/-
  No cell of these rows narrows 'for every input' (looked for: loops, veiled, ifaces, maps, wideKeys, modest, calm, conditions, laid).
  DERIVED. THE GIVEN ROWS OF THIS SEAT. 6 by the template 'for every input the law returns true; each argument reads behind the call as it read before'; 0 by the template 'total and deterministic' (their statements: YtelhnimdfepmdaaTotals.lean).
  GIVEN WITH THE SEED: the statements are not yours to turn. If you find one false, say at which input.
  Laid BY PROGRAM, IN A SANDBOX (cutbox-rows.mjs): the forced cells as the released guide's own fill.sh prints them over the translation 886e3c0567545ceb… (all of the seat's roots in one cut). By AI agents, Wed Nov 11 2026. No macro, syntax, notation, axiom, sorry.
-/
import Derived.Test.YtelhnimdfepmdaaChecked
import GoSem.Claim
import GoSem.ClaimJoined
import GoSem.ClaimMapViews
import Derived.JoinedTies
import Derived.KernelRfl
namespace Go.Proofs.Ytelhnimdfepmdaa
/- THE CELL 'sum', in the pinned program and in every row, IS THE sha256 OF THE DUMP (.gsa) THAT YtelhnimdfepmdaaProg.lean LOADS. Nothing in Lean hashes anything: it is a label: what it is worth is what the hold of that sum in a sandbox is worth. -/
noncomputable def Try.pinned : Pinned := { name := "ytelhnimdfepmdaa", sum := "886e3c0567545ceba822b2532b73d400d6ac597e319c28d4b2af2e2e725ea618", checked := Try.checked }
namespace Rows
def none {H : Type} : Left H := { results := [], args := [] }

/-- 'keylaw1.KeysAreDerived': WHATEVER THE INPUT: true; the input reads as it did. -/
def keysAreDerivedSpec : ChangeSpec := { name := "keysAreDerived", fn := fun _ => fun
  | [d1, d2, d3] => { results := [.lit (.bool true)], args := [d1, d2, d3] }
  | _ => none }
def keysAreDerivedRow : OpenClaim := { program := "ytelhnimdfepmdaa", sum := "886e3c0567545ceba822b2532b73d400d6ac597e319c28d4b2af2e2e725ea618", func := "keywarden/keylaw1.KeysAreDerived", spec := "keysAreDerived", inPlace := ["internal/bytealg.IndexByteString", "internal/bytealg.IndexString"], unfollowed := true, recurses := true, named := ["internal/bytealg.MaxLen"], plainKeys := false, apart := false }
def KeysAreDerivedSaid : Prop := keysAreDerivedRow.holds Try.pinned (OpenSpec.ofChange keysAreDerivedSpec)

/-- ITS FALSE NEIGHBOUR: 'it returns false'. Refute it at one input. -/
def keysAreDerivedWrong : ChangeSpec := { name := "keysAreDerived", fn := fun _ => fun
  | [d1, d2, d3] => { results := [.lit (.bool false)], args := [d1, d2, d3] }
  | _ => none }
def KeysAreDerivedWrongFalsely : Prop := keysAreDerivedRow.holds Try.pinned (OpenSpec.ofChange keysAreDerivedWrong)

/-- 'keylaw1.PatternsFit': WHATEVER THE INPUT: true; the input reads as it did. -/
def patternsFitSpec : ChangeSpec := { name := "patternsFit", fn := fun _ => fun
  | [d1, d2] => { results := [.lit (.bool true)], args := [d1, d2] }
  | _ => none }
def patternsFitRow : OpenClaim := { program := "ytelhnimdfepmdaa", sum := "886e3c0567545ceba822b2532b73d400d6ac597e319c28d4b2af2e2e725ea618", func := "keywarden/keylaw1.PatternsFit", spec := "patternsFit", inPlace := ["internal/bytealg.IndexByteString", "internal/bytealg.IndexString", "internal/bytealg.CountString"], unfollowed := true, recurses := true, named := ["internal/bytealg.MaxLen"], plainKeys := false, apart := false }
def PatternsFitSaid : Prop := patternsFitRow.holds Try.pinned (OpenSpec.ofChange patternsFitSpec)

/-- ITS FALSE NEIGHBOUR: 'it returns false'. Refute it at one input. -/
def patternsFitWrong : ChangeSpec := { name := "patternsFit", fn := fun _ => fun
  | [d1, d2] => { results := [.lit (.bool false)], args := [d1, d2] }
  | _ => none }
def PatternsFitWrongFalsely : Prop := patternsFitRow.holds Try.pinned (OpenSpec.ofChange patternsFitWrong)

/-- 'keylaw1.OrderMeansLittle': WHATEVER THE INPUT: true; the input reads as it did. -/
def orderMeansLittleSpec : ChangeSpec := { name := "orderMeansLittle", fn := fun _ => fun
  | [d1, d2, d3] => { results := [.lit (.bool true)], args := [d1, d2, d3] }
  | _ => none }
def orderMeansLittleRow : OpenClaim := { program := "ytelhnimdfepmdaa", sum := "886e3c0567545ceba822b2532b73d400d6ac597e319c28d4b2af2e2e725ea618", func := "keywarden/keylaw1.OrderMeansLittle", spec := "orderMeansLittle", unfollowed := true, recurses := true, plainKeys := false, apart := false }
def OrderMeansLittleSaid : Prop := orderMeansLittleRow.holds Try.pinned (OpenSpec.ofChange orderMeansLittleSpec)

/-- ITS FALSE NEIGHBOUR: 'it returns false'. Refute it at one input. -/
def orderMeansLittleWrong : ChangeSpec := { name := "orderMeansLittle", fn := fun _ => fun
  | [d1, d2, d3] => { results := [.lit (.bool false)], args := [d1, d2, d3] }
  | _ => none }
def OrderMeansLittleWrongFalsely : Prop := orderMeansLittleRow.holds Try.pinned (OpenSpec.ofChange orderMeansLittleWrong)

/-- 'keylaw1.AsksAreDecided': WHATEVER THE INPUT: true; the input reads as it did. -/
def asksAreDecidedSpec : ChangeSpec := { name := "asksAreDecided", fn := fun _ => fun
  | [d1, d2, d3] => { results := [.lit (.bool true)], args := [d1, d2, d3] }
  | _ => none }
def asksAreDecidedRow : OpenClaim := { program := "ytelhnimdfepmdaa", sum := "886e3c0567545ceba822b2532b73d400d6ac597e319c28d4b2af2e2e725ea618", func := "keywarden/keylaw1.AsksAreDecided", spec := "asksAreDecided", inPlace := ["internal/bytealg.IndexByteString", "internal/bytealg.IndexString"], unfollowed := true, recurses := true, named := ["internal/bytealg.MaxLen"], plainKeys := false, apart := false }
def AsksAreDecidedSaid : Prop := asksAreDecidedRow.holds Try.pinned (OpenSpec.ofChange asksAreDecidedSpec)

/-- ITS FALSE NEIGHBOUR: 'it returns false'. Refute it at one input. -/
def asksAreDecidedWrong : ChangeSpec := { name := "asksAreDecided", fn := fun _ => fun
  | [d1, d2, d3] => { results := [.lit (.bool false)], args := [d1, d2, d3] }
  | _ => none }
def AsksAreDecidedWrongFalsely : Prop := asksAreDecidedRow.holds Try.pinned (OpenSpec.ofChange asksAreDecidedWrong)

/-- 'keylaw1.AsksCheck': WHATEVER THE INPUT: true; the input reads as it did. -/
def asksCheckSpec : ChangeSpec := { name := "asksCheck", fn := fun _ => fun
  | [d1, d2] => { results := [.lit (.bool true)], args := [d1, d2] }
  | _ => none }
def asksCheckRow : OpenClaim := { program := "ytelhnimdfepmdaa", sum := "886e3c0567545ceba822b2532b73d400d6ac597e319c28d4b2af2e2e725ea618", func := "keywarden/keylaw1.AsksCheck", spec := "asksCheck", inPlace := ["internal/bytealg.IndexByteString", "internal/bytealg.IndexString"], unfollowed := true, recurses := true, named := ["internal/bytealg.MaxLen"], plainKeys := false, apart := false }
def AsksCheckSaid : Prop := asksCheckRow.holds Try.pinned (OpenSpec.ofChange asksCheckSpec)

/-- ITS FALSE NEIGHBOUR: 'it returns false'. Refute it at one input. -/
def asksCheckWrong : ChangeSpec := { name := "asksCheck", fn := fun _ => fun
  | [d1, d2] => { results := [.lit (.bool false)], args := [d1, d2] }
  | _ => none }
def AsksCheckWrongFalsely : Prop := asksCheckRow.holds Try.pinned (OpenSpec.ofChange asksCheckWrong)

/-- 'keylaw1.HeadsMatch': WHATEVER THE INPUT: true; the input reads as it did. -/
def headsMatchSpec : ChangeSpec := { name := "headsMatch", fn := fun _ => fun
  | [d1, d2, d3, d4] => { results := [.lit (.bool true)], args := [d1, d2, d3, d4] }
  | _ => none }
def headsMatchRow : OpenClaim := { program := "ytelhnimdfepmdaa", sum := "886e3c0567545ceba822b2532b73d400d6ac597e319c28d4b2af2e2e725ea618", func := "keywarden/keylaw1.HeadsMatch", spec := "headsMatch", plainKeys := false, apart := false }
def HeadsMatchSaid : Prop := headsMatchRow.holds Try.pinned (OpenSpec.ofChange headsMatchSpec)

/-- ITS FALSE NEIGHBOUR: 'it returns false'. Refute it at one input. -/
def headsMatchWrong : ChangeSpec := { name := "headsMatch", fn := fun _ => fun
  | [d1, d2, d3, d4] => { results := [.lit (.bool false)], args := [d1, d2, d3, d4] }
  | _ => none }
def HeadsMatchWrongFalsely : Prop := headsMatchRow.holds Try.pinned (OpenSpec.ofChange headsMatchWrong)

/- THE SECOND FORM. 'bulk': how many values and letters a reading holds, each counted each time it is reached (what is shared counts as often as it is met; a slice's spare places count too). A statement '..UptoSaid' is the law's where the arguments, and the package variables that the reading takes, are together of bulk at most 1048576: NARROWER than '..Said'. Prove '..Said' where nothing that the law and all that it calls make is longer than what came in: it says more and counts as full. Else prove '..UptoSaid'. A law counts once. -/
mutual
def uptoBulk {H : Type} : DataW H → Nat
  | .lit (.string bytes) => bytes.length + 1
  | .lit _ => 1
  | .nil => 1
  | .ptr d => uptoBulk d + 1
  | .slice elems spare => uptoBulkAll elems + uptoBulkAll spare + 1
  | .agg parts => uptoBulkAll parts + 1
  | .iface _ d => uptoBulk d + 1
  | .map entries => uptoBulkEntries entries + 1
  | .held _ => 1
def uptoBulkAll {H : Type} : List (DataW H) → Nat
  | [] => 0
  | d :: r => uptoBulk d + uptoBulkAll r
def uptoBulkEntries {H : Type} : List (Lit × DataW H) → Nat
  | [] => 0
  | x :: r => uptoBulkEntry x + uptoBulkEntries r
def uptoBulkEntry {H : Type} : Lit × DataW H → Nat
  | (.string bytes, d) => bytes.length + uptoBulk d + 1
  | (_, d) => uptoBulk d + 1
 end
def uptoSmall : (H : Type) → List (DataW H) → Bool := fun _ ds => decide (uptoBulkAll ds ≤ 1048576)
def OpenSpec.upto (s : _root_.Go.ChangeSpec) : _root_.Go.OpenSpec := { _root_.Go.OpenSpec.ofChange s with cond := some uptoSmall }

/-- 'keylaw1.KeysAreDerived', WHERE WHAT IT READS IS OF BULK AT MOST 1048576: true; the input reads as it did. -/
def keysAreDerivedUptoRow : OpenClaim := { program := "ytelhnimdfepmdaa", sum := "886e3c0567545ceba822b2532b73d400d6ac597e319c28d4b2af2e2e725ea618", func := "keywarden/keylaw1.KeysAreDerived", spec := "keysAreDerived", inPlace := ["internal/bytealg.IndexByteString", "internal/bytealg.IndexString"], unfollowed := true, recurses := true, named := ["internal/bytealg.MaxLen"], plainKeys := false, apart := false, narrowed := true }
def KeysAreDerivedUptoSaid : Prop := keysAreDerivedUptoRow.holds Try.pinned (OpenSpec.upto keysAreDerivedSpec)

/-- 'keylaw1.PatternsFit', WHERE WHAT IT READS IS OF BULK AT MOST 1048576: true; the input reads as it did. -/
def patternsFitUptoRow : OpenClaim := { program := "ytelhnimdfepmdaa", sum := "886e3c0567545ceba822b2532b73d400d6ac597e319c28d4b2af2e2e725ea618", func := "keywarden/keylaw1.PatternsFit", spec := "patternsFit", inPlace := ["internal/bytealg.IndexByteString", "internal/bytealg.IndexString", "internal/bytealg.CountString"], unfollowed := true, recurses := true, named := ["internal/bytealg.MaxLen"], plainKeys := false, apart := false, narrowed := true }
def PatternsFitUptoSaid : Prop := patternsFitUptoRow.holds Try.pinned (OpenSpec.upto patternsFitSpec)

/-- 'keylaw1.OrderMeansLittle', WHERE WHAT IT READS IS OF BULK AT MOST 1048576: true; the input reads as it did. -/
def orderMeansLittleUptoRow : OpenClaim := { program := "ytelhnimdfepmdaa", sum := "886e3c0567545ceba822b2532b73d400d6ac597e319c28d4b2af2e2e725ea618", func := "keywarden/keylaw1.OrderMeansLittle", spec := "orderMeansLittle", unfollowed := true, recurses := true, plainKeys := false, apart := false, narrowed := true }
def OrderMeansLittleUptoSaid : Prop := orderMeansLittleUptoRow.holds Try.pinned (OpenSpec.upto orderMeansLittleSpec)

/-- 'keylaw1.AsksAreDecided', WHERE WHAT IT READS IS OF BULK AT MOST 1048576: true; the input reads as it did. -/
def asksAreDecidedUptoRow : OpenClaim := { program := "ytelhnimdfepmdaa", sum := "886e3c0567545ceba822b2532b73d400d6ac597e319c28d4b2af2e2e725ea618", func := "keywarden/keylaw1.AsksAreDecided", spec := "asksAreDecided", inPlace := ["internal/bytealg.IndexByteString", "internal/bytealg.IndexString"], unfollowed := true, recurses := true, named := ["internal/bytealg.MaxLen"], plainKeys := false, apart := false, narrowed := true }
def AsksAreDecidedUptoSaid : Prop := asksAreDecidedUptoRow.holds Try.pinned (OpenSpec.upto asksAreDecidedSpec)

/-- 'keylaw1.AsksCheck', WHERE WHAT IT READS IS OF BULK AT MOST 1048576: true; the input reads as it did. -/
def asksCheckUptoRow : OpenClaim := { program := "ytelhnimdfepmdaa", sum := "886e3c0567545ceba822b2532b73d400d6ac597e319c28d4b2af2e2e725ea618", func := "keywarden/keylaw1.AsksCheck", spec := "asksCheck", inPlace := ["internal/bytealg.IndexByteString", "internal/bytealg.IndexString"], unfollowed := true, recurses := true, named := ["internal/bytealg.MaxLen"], plainKeys := false, apart := false, narrowed := true }
def AsksCheckUptoSaid : Prop := asksCheckUptoRow.holds Try.pinned (OpenSpec.upto asksCheckSpec)

/-- 'keylaw1.HeadsMatch', WHERE WHAT IT READS IS OF BULK AT MOST 1048576: true; the input reads as it did. -/
def headsMatchUptoRow : OpenClaim := { program := "ytelhnimdfepmdaa", sum := "886e3c0567545ceba822b2532b73d400d6ac597e319c28d4b2af2e2e725ea618", func := "keywarden/keylaw1.HeadsMatch", spec := "headsMatch", plainKeys := false, apart := false, narrowed := true }
def HeadsMatchUptoSaid : Prop := headsMatchUptoRow.holds Try.pinned (OpenSpec.upto headsMatchSpec)

end Rows
end Go.Proofs.Ytelhnimdfepmdaa

/-
  DERIVED. GIVEN WITH THE SEED: THE CARDS: each row of YthfddfgncolnbaaGreatDoorRows.lean that lists a variable, with what it lists TIED to the program's text (the seventh form; the later family's looks); each row that meets fmt, with fmt's text TOLD by the authors' own Lean function (tested against real Go, not proved from fmt's source: count such statements apart). THE CARD IS WHAT COUNTS. Prove the row's statement (the work); the ties are given (YthfddfgncolnbaaGreatDoorTie.lean); close each card by the builder's one call (the guide's Derived/Test/ToyasCard.lean, 'card_holds'). Laid BY PROGRAM, IN A SANDBOX (cutbox-door.mjs). By AI agents, Wed Nov 11 2026. No macro, syntax, notation, axiom, sorry.
-/
import Derived.Test.YthfddfgncolnbaaGreatDoorRows
import GoSem.ClaimSeven
namespace Go.Proofs.YthfddfgncolnbaaGreatDoor
namespace Rows

/-- THE TIED CARD OF 'keylaw1.PoliciesParse'. -/
def policiesParseCard : Claim7 := { stood := { row := policiesParseRow, standIns := [], harness := (true, "90eff7ccce5d37aae7d1834031243a7cd121dbce795d475f1e8fdad6ba2a63bd"), looks := true }, kinds := [], alts := [], laidByText := true, laidKinds := [.data, .data, .data, .data, .sentinel, .sentinel, .listed, .data, .pinned], laidTests := true, laidLooks := .later }
def PoliciesParseCardSaid : Prop := Claim7.holds Tryz.pinned (.plain (OpenSpec.ofChange policiesParseSpec)) policiesParseCard

/-- THE TIED CARD OF 'keylaw1.PoliciesCheck'. -/
def policiesCheckCard : Claim7 := { stood := { row := policiesCheckRow, standIns := [], harness := (true, "90eff7ccce5d37aae7d1834031243a7cd121dbce795d475f1e8fdad6ba2a63bd"), looks := true }, kinds := [], alts := [], laidByText := true, laidKinds := [.data, .data, .data, .data, .sentinel, .sentinel, .listed, .data, .pinned], laidTests := true, laidLooks := .later }
def PoliciesCheckCardSaid : Prop := Claim7.holds Tryz.pinned (.plain (OpenSpec.ofChange policiesCheckSpec)) policiesCheckCard

/-- THE SECOND FORM's CARD OF 'keylaw1.PoliciesParse'. -/
def policiesParseUptoCard : Claim7 := { stood := { row := policiesParseUptoRow, standIns := [], harness := (true, "90eff7ccce5d37aae7d1834031243a7cd121dbce795d475f1e8fdad6ba2a63bd"), looks := true }, kinds := [], alts := [], laidByText := true, laidKinds := [.data, .data, .data, .data, .sentinel, .sentinel, .listed, .data, .pinned], laidTests := true, laidLooks := .later }
def PoliciesParseUptoCardSaid : Prop := Claim7.holds Tryz.pinned (.plain (OpenSpec.upto policiesParseSpec)) policiesParseUptoCard

/-- THE SECOND FORM's CARD OF 'keylaw1.PoliciesCheck'. -/
def policiesCheckUptoCard : Claim7 := { stood := { row := policiesCheckUptoRow, standIns := [], harness := (true, "90eff7ccce5d37aae7d1834031243a7cd121dbce795d475f1e8fdad6ba2a63bd"), looks := true }, kinds := [], alts := [], laidByText := true, laidKinds := [.data, .data, .data, .data, .sentinel, .sentinel, .listed, .data, .pinned], laidTests := true, laidLooks := .later }
def PoliciesCheckUptoCardSaid : Prop := Claim7.holds Tryz.pinned (.plain (OpenSpec.upto policiesCheckSpec)) policiesCheckUptoCard
end Rows
end Go.Proofs.YthfddfgncolnbaaGreatDoor

/-
  DERIVED. GIVEN WITH THE SEED: THE CARDS: each row of YthfddfgncolnbaaDoorRows.lean that lists a variable, with what it lists TIED to the program's text (the seventh form; the later family's looks); each row that meets fmt, with fmt's text TOLD by the authors' own Lean function (tested against real Go, not proved from fmt's source: count such statements apart). THE CARD IS WHAT COUNTS. Prove the row's statement (the work); the ties are given (YthfddfgncolnbaaDoorTie.lean); close each card by the builder's one call (the guide's Derived/Test/ToyasCard.lean, 'card_holds'). Laid BY PROGRAM, IN A SANDBOX (cutbox-door.mjs). By AI agents, Wed Nov 11 2026. No macro, syntax, notation, axiom, sorry.
-/
import Derived.Test.YthfddfgncolnbaaDoorRows
import GoSem.ClaimSeven
namespace Go.Proofs.YthfddfgncolnbaaDoor
namespace Rows

/-- THE TIED CARD OF 'keylaw1.FindingsMatch'. -/
def findingsMatchCard : Claim7 := { stood := { row := findingsMatchRow, standIns := [], harness := (true, "f0ebca4e40676a31978a7293d7392422ee6863b5a33ca87feee05d4785ffeb01"), looks := true }, kinds := [], alts := [], laidByText := true, laidKinds := [.data, .data, .data, .sentinel, .sentinel], laidTests := true, laidLooks := .later }
def FindingsMatchCardSaid : Prop := Claim7.holds Tryd.pinned (.plain (OpenSpec.ofChange findingsMatchSpec)) findingsMatchCard

/-- THE SECOND FORM's CARD OF 'keylaw1.FindingsMatch'. -/
def findingsMatchUptoCard : Claim7 := { stood := { row := findingsMatchUptoRow, standIns := [], harness := (true, "f0ebca4e40676a31978a7293d7392422ee6863b5a33ca87feee05d4785ffeb01"), looks := true }, kinds := [], alts := [], laidByText := true, laidKinds := [.data, .data, .data, .sentinel, .sentinel], laidTests := true, laidLooks := .later }
def FindingsMatchUptoCardSaid : Prop := Claim7.holds Tryd.pinned (.plain (OpenSpec.upto findingsMatchSpec)) findingsMatchUptoCard
end Rows
end Go.Proofs.YthfddfgncolnbaaDoor

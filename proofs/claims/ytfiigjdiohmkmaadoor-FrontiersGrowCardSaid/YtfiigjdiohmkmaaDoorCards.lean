/-
  DERIVED. GIVEN WITH THE SEED: THE CARDS: each row of YtfiigjdiohmkmaaDoorRows.lean that lists a variable, with what it lists TIED to the program's text (the seventh form; the later family's looks); each row that meets fmt, with fmt's text TOLD by the authors' own Lean function (tested against real Go, not proved from fmt's source: count such statements apart). THE CARD IS WHAT COUNTS. Prove the row's statement (the work); the ties are given (YtfiigjdiohmkmaaDoorTie.lean); close each card by the builder's one call (the guide's Derived/Test/ToyasCard.lean, 'card_holds'). Laid BY PROGRAM, IN A SANDBOX (cutbox-door.mjs). By AI agents, Wed Nov 11 2026. No macro, syntax, notation, axiom, sorry.
-/
import Derived.Test.YtfiigjdiohmkmaaDoorRows
import GoSem.ClaimSeven
namespace Go.Proofs.YtfiigjdiohmkmaaDoor
namespace Rows

/-- THE TIED CARD OF 'keylaw1.FrontiersCheck'. -/
def frontiersCheckCard : Claim7 := { stood := { row := frontiersCheckRow, standIns := [], harness := (true, "757dd7acac57f54503efc71a935b179d31c3946db8e48d3eccf1c29104b81e6b"), looks := false }, kinds := [], alts := [], laidByText := true, laidKinds := [.data, .data], laidTests := true, laidLooks := .later }
def FrontiersCheckCardSaid : Prop := Claim7.holds Tryd.pinned (.plain (OpenSpec.ofChange frontiersCheckSpec)) frontiersCheckCard

/-- THE TIED CARD OF 'keylaw1.FrontiersGrow'. -/
def frontiersGrowCard : Claim7 := { stood := { row := frontiersGrowRow, standIns := [], harness := (true, "757dd7acac57f54503efc71a935b179d31c3946db8e48d3eccf1c29104b81e6b"), looks := false }, kinds := [], alts := [], laidByText := true, laidKinds := [.data, .data], laidTests := true, laidLooks := .later }
def FrontiersGrowCardSaid : Prop := Claim7.holds Tryd.pinned (.plain (OpenSpec.ofChange frontiersGrowSpec)) frontiersGrowCard

/-- THE SECOND FORM's CARD OF 'keylaw1.FrontiersCheck'. -/
def frontiersCheckUptoCard : Claim7 := { stood := { row := frontiersCheckUptoRow, standIns := [], harness := (true, "757dd7acac57f54503efc71a935b179d31c3946db8e48d3eccf1c29104b81e6b"), looks := false }, kinds := [], alts := [], laidByText := true, laidKinds := [.data, .data], laidTests := true, laidLooks := .later }
def FrontiersCheckUptoCardSaid : Prop := Claim7.holds Tryd.pinned (.plain (OpenSpec.upto frontiersCheckSpec)) frontiersCheckUptoCard

/-- THE SECOND FORM's CARD OF 'keylaw1.FrontiersGrow'. -/
def frontiersGrowUptoCard : Claim7 := { stood := { row := frontiersGrowUptoRow, standIns := [], harness := (true, "757dd7acac57f54503efc71a935b179d31c3946db8e48d3eccf1c29104b81e6b"), looks := false }, kinds := [], alts := [], laidByText := true, laidKinds := [.data, .data], laidTests := true, laidLooks := .later }
def FrontiersGrowUptoCardSaid : Prop := Claim7.holds Tryd.pinned (.plain (OpenSpec.upto frontiersGrowSpec)) frontiersGrowUptoCard
end Rows
end Go.Proofs.YtfiigjdiohmkmaaDoor

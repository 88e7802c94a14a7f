/-
  DERIVED. GIVEN WITH THE SEED: THE CARDS: each row of YtjlhhnkhcbpnjaaGreatDoorRows.lean that lists a variable, with what it lists TIED to the program's text (the seventh form; the later family's looks); each row that meets fmt, with fmt's text TOLD by the authors' own Lean function (tested against real Go, not proved from fmt's source: count such statements apart). THE CARD IS WHAT COUNTS. Prove the row's statement (the work); the ties are given (YtjlhhnkhcbpnjaaGreatDoorTie.lean); close each card by the builder's one call (the guide's Derived/Test/ToyasCard.lean, 'card_holds'). Laid BY PROGRAM, IN A SANDBOX (cutbox-door.mjs). By AI agents, Wed Nov 11 2026. No macro, syntax, notation, axiom, sorry.
-/
import Derived.Test.YtjlhhnkhcbpnjaaGreatDoorRows
import GoSem.ClaimSeven
namespace Go.Proofs.YtjlhhnkhcbpnjaaGreatDoor
namespace Rows

/-- THE TIED CARD OF 'keylaw1.LedgersOpen'. -/
def ledgersOpenCard : Claim7 := { stood := { row := ledgersOpenRow, standIns := [], harness := (true, "31373ff8d574cf59e0ad42ef68bd3ef9b0f4bf4079fc443ea168d6ede60dd6ed"), looks := true }, kinds := [], alts := [], laidByText := true, laidKinds := [.data, .data, .data, .data, .sentinel, .sentinel, .pinned], laidTests := true, laidLooks := .later }
def LedgersOpenCardSaid : Prop := Claim7.holds Tryz.pinned (.plain (OpenSpec.ofChange ledgersOpenSpec)) ledgersOpenCard

/-- THE TIED CARD OF 'keylaw1.LedgersPart'. -/
def ledgersPartCard : Claim7 := { stood := { row := ledgersPartRow, standIns := [], harness := (true, "31373ff8d574cf59e0ad42ef68bd3ef9b0f4bf4079fc443ea168d6ede60dd6ed"), looks := true }, kinds := [], alts := [], laidByText := true, laidKinds := [.data, .data, .data, .data, .sentinel, .sentinel, .pinned], laidTests := true, laidLooks := .later }
def LedgersPartCardSaid : Prop := Claim7.holds Tryz.pinned (.plain (OpenSpec.ofChange ledgersPartSpec)) ledgersPartCard

/-- THE TIED CARD OF 'keylaw1.LedgersMatch'. -/
def ledgersMatchCard : Claim7 := { stood := { row := ledgersMatchRow, standIns := [], harness := (true, "31373ff8d574cf59e0ad42ef68bd3ef9b0f4bf4079fc443ea168d6ede60dd6ed"), looks := true }, kinds := [], alts := [], laidByText := true, laidKinds := [.data, .data, .data, .data, .sentinel, .sentinel, .pinned], laidTests := true, laidLooks := .later }
def LedgersMatchCardSaid : Prop := Claim7.holds Tryz.pinned (.plain (OpenSpec.ofChange ledgersMatchSpec)) ledgersMatchCard

/-- THE TIED CARD OF 'keylaw1.WatchesMatch'. -/
def watchesMatchCard : Claim7 := { stood := { row := watchesMatchRow, standIns := [], harness := (true, "31373ff8d574cf59e0ad42ef68bd3ef9b0f4bf4079fc443ea168d6ede60dd6ed"), looks := true }, kinds := [], alts := [], laidByText := true, laidKinds := [.data, .data, .data, .data, .sentinel, .sentinel, .pinned], laidTests := true, laidLooks := .later }
def WatchesMatchCardSaid : Prop := Claim7.holds Tryz.pinned (.plain (OpenSpec.ofChange watchesMatchSpec)) watchesMatchCard

/-- THE SECOND FORM's CARD OF 'keylaw1.LedgersOpen'. -/
def ledgersOpenUptoCard : Claim7 := { stood := { row := ledgersOpenUptoRow, standIns := [], harness := (true, "31373ff8d574cf59e0ad42ef68bd3ef9b0f4bf4079fc443ea168d6ede60dd6ed"), looks := true }, kinds := [], alts := [], laidByText := true, laidKinds := [.data, .data, .data, .data, .sentinel, .sentinel, .pinned], laidTests := true, laidLooks := .later }
def LedgersOpenUptoCardSaid : Prop := Claim7.holds Tryz.pinned (.plain (OpenSpec.upto ledgersOpenSpec)) ledgersOpenUptoCard

/-- THE SECOND FORM's CARD OF 'keylaw1.LedgersPart'. -/
def ledgersPartUptoCard : Claim7 := { stood := { row := ledgersPartUptoRow, standIns := [], harness := (true, "31373ff8d574cf59e0ad42ef68bd3ef9b0f4bf4079fc443ea168d6ede60dd6ed"), looks := true }, kinds := [], alts := [], laidByText := true, laidKinds := [.data, .data, .data, .data, .sentinel, .sentinel, .pinned], laidTests := true, laidLooks := .later }
def LedgersPartUptoCardSaid : Prop := Claim7.holds Tryz.pinned (.plain (OpenSpec.upto ledgersPartSpec)) ledgersPartUptoCard

/-- THE SECOND FORM's CARD OF 'keylaw1.LedgersMatch'. -/
def ledgersMatchUptoCard : Claim7 := { stood := { row := ledgersMatchUptoRow, standIns := [], harness := (true, "31373ff8d574cf59e0ad42ef68bd3ef9b0f4bf4079fc443ea168d6ede60dd6ed"), looks := true }, kinds := [], alts := [], laidByText := true, laidKinds := [.data, .data, .data, .data, .sentinel, .sentinel, .pinned], laidTests := true, laidLooks := .later }
def LedgersMatchUptoCardSaid : Prop := Claim7.holds Tryz.pinned (.plain (OpenSpec.upto ledgersMatchSpec)) ledgersMatchUptoCard

/-- THE SECOND FORM's CARD OF 'keylaw1.WatchesMatch'. -/
def watchesMatchUptoCard : Claim7 := { stood := { row := watchesMatchUptoRow, standIns := [], harness := (true, "31373ff8d574cf59e0ad42ef68bd3ef9b0f4bf4079fc443ea168d6ede60dd6ed"), looks := true }, kinds := [], alts := [], laidByText := true, laidKinds := [.data, .data, .data, .data, .sentinel, .sentinel, .pinned], laidTests := true, laidLooks := .later }
def WatchesMatchUptoCardSaid : Prop := Claim7.holds Tryz.pinned (.plain (OpenSpec.upto watchesMatchSpec)) watchesMatchUptoCard
end Rows
end Go.Proofs.YtjlhhnkhcbpnjaaGreatDoor

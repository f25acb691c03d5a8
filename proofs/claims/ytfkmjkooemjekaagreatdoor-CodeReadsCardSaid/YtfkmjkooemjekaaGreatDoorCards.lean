/-
  DERIVED. GIVEN WITH THE SEED: THE CARDS: each row of YtfkmjkooemjekaaGreatDoorRows.lean that lists a variable, with what it lists TIED to the program's text (the seventh form; the later family's looks); each row that meets fmt, with fmt's text TOLD by the authors' own Lean function (tested against real Go, not proved from fmt's source: count such statements apart). THE CARD IS WHAT COUNTS. Prove the row's statement (the work); the ties are given (YtfkmjkooemjekaaGreatDoorTie.lean); close each card by the builder's one call (the guide's Derived/Test/ToyasCard.lean, 'card_holds'). Laid BY PROGRAM, IN A SANDBOX (cutbox-door.mjs). By AI agents, Wed Nov 11 2026. No macro, syntax, notation, axiom, sorry.
-/
import Derived.Test.YtfkmjkooemjekaaGreatDoorRows
import GoSem.ClaimSeven
namespace Go.Proofs.YtfkmjkooemjekaaGreatDoor
namespace Rows

/-- THE TIED CARD OF 'rootcauselaw11.CodeUnits'. -/
def codeUnitsCard : Claim7 := { stood := { row := codeUnitsRow, standIns := [], harness := (true, "32454159392d2e22452acefaccbb2c768a61fe8230d20b00a4efd4ea29b87831"), looks := false }, kinds := [], alts := [], laidByText := true, laidKinds := [.data, .data, .data, .data, .data, .data, .data, .data], laidTests := true, laidLooks := .later }
def CodeUnitsCardSaid : Prop := Claim7.holds Tryz.pinned (.plain (OpenSpec.ofChange codeUnitsSpec)) codeUnitsCard

/-- THE TIED CARD OF 'rootcauselaw11.CodeReads'. -/
def codeReadsCard : Claim7 := { stood := { row := codeReadsRow, standIns := [], harness := (true, "32454159392d2e22452acefaccbb2c768a61fe8230d20b00a4efd4ea29b87831"), looks := false }, kinds := [], alts := [], laidByText := true, laidKinds := [.data, .data, .data, .data, .data, .data, .data, .data], laidTests := true, laidLooks := .later }
def CodeReadsCardSaid : Prop := Claim7.holds Tryz.pinned (.plain (OpenSpec.ofChange codeReadsSpec)) codeReadsCard

/-- THE SECOND FORM's CARD OF 'rootcauselaw11.CodeUnits'. -/
def codeUnitsUptoCard : Claim7 := { stood := { row := codeUnitsUptoRow, standIns := [], harness := (true, "32454159392d2e22452acefaccbb2c768a61fe8230d20b00a4efd4ea29b87831"), looks := false }, kinds := [], alts := [], laidByText := true, laidKinds := [.data, .data, .data, .data, .data, .data, .data, .data], laidTests := true, laidLooks := .later }
def CodeUnitsUptoCardSaid : Prop := Claim7.holds Tryz.pinned (.plain (OpenSpec.upto codeUnitsSpec)) codeUnitsUptoCard

/-- THE SECOND FORM's CARD OF 'rootcauselaw11.CodeReads'. -/
def codeReadsUptoCard : Claim7 := { stood := { row := codeReadsUptoRow, standIns := [], harness := (true, "32454159392d2e22452acefaccbb2c768a61fe8230d20b00a4efd4ea29b87831"), looks := false }, kinds := [], alts := [], laidByText := true, laidKinds := [.data, .data, .data, .data, .data, .data, .data, .data], laidTests := true, laidLooks := .later }
def CodeReadsUptoCardSaid : Prop := Claim7.holds Tryz.pinned (.plain (OpenSpec.upto codeReadsSpec)) codeReadsUptoCard
end Rows
end Go.Proofs.YtfkmjkooemjekaaGreatDoor

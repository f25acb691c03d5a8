/-
  DERIVED. GIVEN WITH THE SEED: THE CARDS: each row of YtlihklladkagpaaGreatDoorRows.lean that lists a variable, with what it lists TIED to the program's text (the seventh form; the later family's looks); each row that meets fmt, with fmt's text TOLD by the authors' own Lean function (tested against real Go, not proved from fmt's source: count such statements apart). THE CARD IS WHAT COUNTS. Prove the row's statement (the work); the ties are given (YtlihklladkagpaaGreatDoorTie.lean); close each card by the builder's one call (the guide's Derived/Test/ToyasCard.lean, 'card_holds'). Laid BY PROGRAM, IN A SANDBOX (cutbox-door.mjs). By AI agents, Wed Nov 11 2026. No macro, syntax, notation, axiom, sorry.
-/
import Derived.Test.YtlihklladkagpaaGreatDoorRows
import GoSem.ClaimSeven
namespace Go.Proofs.YtlihklladkagpaaGreatDoor
namespace Rows

/-- THE TIED CARD OF 'rootcauselaw12.ExecErrs'. -/
def execErrsCard : Claim7 := { stood := { row := execErrsRow, standIns := [], harness := (true, "7d4bd22da186cb4749c7edcb3af40e64ec0d7326190819c5c882e21dd7e74d57"), looks := false }, kinds := [], alts := [], laidByText := true, laidKinds := [.data, .data, .data, .data, .data, .data, .data, .data], laidTests := true, laidLooks := .later }
def ExecErrsCardSaid : Prop := Claim7.holds Tryz.pinned (.plain (OpenSpec.ofChange execErrsSpec)) execErrsCard

/-- THE TIED CARD OF 'rootcauselaw12.ExecHandlers'. -/
def execHandlersCard : Claim7 := { stood := { row := execHandlersRow, standIns := [], harness := (true, "7d4bd22da186cb4749c7edcb3af40e64ec0d7326190819c5c882e21dd7e74d57"), looks := false }, kinds := [], alts := [], laidByText := true, laidKinds := [.data, .data, .data, .data, .data, .data, .data, .data], laidTests := true, laidLooks := .later }
def ExecHandlersCardSaid : Prop := Claim7.holds Tryz.pinned (.plain (OpenSpec.ofChange execHandlersSpec)) execHandlersCard

/-- THE TIED CARD OF 'rootcauselaw12.ExecStatements'. -/
def execStatementsCard : Claim7 := { stood := { row := execStatementsRow, standIns := [], harness := (true, "7d4bd22da186cb4749c7edcb3af40e64ec0d7326190819c5c882e21dd7e74d57"), looks := false }, kinds := [], alts := [], laidByText := true, laidKinds := [.data, .data, .data, .data, .data, .data, .data, .data], laidTests := true, laidLooks := .later }
def ExecStatementsCardSaid : Prop := Claim7.holds Tryz.pinned (.plain (OpenSpec.ofChange execStatementsSpec)) execStatementsCard

/-- THE TIED CARD OF 'rootcauselaw12.ExecBounds'. -/
def execBoundsCard : Claim7 := { stood := { row := execBoundsRow, standIns := [], harness := (true, "7d4bd22da186cb4749c7edcb3af40e64ec0d7326190819c5c882e21dd7e74d57"), looks := false }, kinds := [], alts := [], laidByText := true, laidKinds := [.data, .data, .data, .data, .data, .data, .data, .data], laidTests := true, laidLooks := .later }
def ExecBoundsCardSaid : Prop := Claim7.holds Tryz.pinned (.plain (OpenSpec.ofChange execBoundsSpec)) execBoundsCard

/-- THE TIED CARD OF 'rootcauselaw12.ExecDisks'. -/
def execDisksCard : Claim7 := { stood := { row := execDisksRow, standIns := [], harness := (true, "7d4bd22da186cb4749c7edcb3af40e64ec0d7326190819c5c882e21dd7e74d57"), looks := false }, kinds := [], alts := [], laidByText := true, laidKinds := [.data, .data, .data, .data, .data, .data, .data, .data], laidTests := true, laidLooks := .later }
def ExecDisksCardSaid : Prop := Claim7.holds Tryz.pinned (.plain (OpenSpec.ofChange execDisksSpec)) execDisksCard

/-- THE TIED CARD OF 'rootcauselaw12.ExecPure'. -/
def execPureCard : Claim7 := { stood := { row := execPureRow, standIns := [], harness := (true, "7d4bd22da186cb4749c7edcb3af40e64ec0d7326190819c5c882e21dd7e74d57"), looks := false }, kinds := [], alts := [], laidByText := true, laidKinds := [.data, .data, .data, .data, .data, .data, .data, .data], laidTests := true, laidLooks := .later }
def ExecPureCardSaid : Prop := Claim7.holds Tryz.pinned (.plain (OpenSpec.ofChange execPureSpec)) execPureCard

/-- THE SECOND FORM's CARD OF 'rootcauselaw12.ExecErrs'. -/
def execErrsUptoCard : Claim7 := { stood := { row := execErrsUptoRow, standIns := [], harness := (true, "7d4bd22da186cb4749c7edcb3af40e64ec0d7326190819c5c882e21dd7e74d57"), looks := false }, kinds := [], alts := [], laidByText := true, laidKinds := [.data, .data, .data, .data, .data, .data, .data, .data], laidTests := true, laidLooks := .later }
def ExecErrsUptoCardSaid : Prop := Claim7.holds Tryz.pinned (.plain (OpenSpec.upto execErrsSpec)) execErrsUptoCard

/-- THE SECOND FORM's CARD OF 'rootcauselaw12.ExecHandlers'. -/
def execHandlersUptoCard : Claim7 := { stood := { row := execHandlersUptoRow, standIns := [], harness := (true, "7d4bd22da186cb4749c7edcb3af40e64ec0d7326190819c5c882e21dd7e74d57"), looks := false }, kinds := [], alts := [], laidByText := true, laidKinds := [.data, .data, .data, .data, .data, .data, .data, .data], laidTests := true, laidLooks := .later }
def ExecHandlersUptoCardSaid : Prop := Claim7.holds Tryz.pinned (.plain (OpenSpec.upto execHandlersSpec)) execHandlersUptoCard

/-- THE SECOND FORM's CARD OF 'rootcauselaw12.ExecStatements'. -/
def execStatementsUptoCard : Claim7 := { stood := { row := execStatementsUptoRow, standIns := [], harness := (true, "7d4bd22da186cb4749c7edcb3af40e64ec0d7326190819c5c882e21dd7e74d57"), looks := false }, kinds := [], alts := [], laidByText := true, laidKinds := [.data, .data, .data, .data, .data, .data, .data, .data], laidTests := true, laidLooks := .later }
def ExecStatementsUptoCardSaid : Prop := Claim7.holds Tryz.pinned (.plain (OpenSpec.upto execStatementsSpec)) execStatementsUptoCard

/-- THE SECOND FORM's CARD OF 'rootcauselaw12.ExecBounds'. -/
def execBoundsUptoCard : Claim7 := { stood := { row := execBoundsUptoRow, standIns := [], harness := (true, "7d4bd22da186cb4749c7edcb3af40e64ec0d7326190819c5c882e21dd7e74d57"), looks := false }, kinds := [], alts := [], laidByText := true, laidKinds := [.data, .data, .data, .data, .data, .data, .data, .data], laidTests := true, laidLooks := .later }
def ExecBoundsUptoCardSaid : Prop := Claim7.holds Tryz.pinned (.plain (OpenSpec.upto execBoundsSpec)) execBoundsUptoCard

/-- THE SECOND FORM's CARD OF 'rootcauselaw12.ExecDisks'. -/
def execDisksUptoCard : Claim7 := { stood := { row := execDisksUptoRow, standIns := [], harness := (true, "7d4bd22da186cb4749c7edcb3af40e64ec0d7326190819c5c882e21dd7e74d57"), looks := false }, kinds := [], alts := [], laidByText := true, laidKinds := [.data, .data, .data, .data, .data, .data, .data, .data], laidTests := true, laidLooks := .later }
def ExecDisksUptoCardSaid : Prop := Claim7.holds Tryz.pinned (.plain (OpenSpec.upto execDisksSpec)) execDisksUptoCard

/-- THE SECOND FORM's CARD OF 'rootcauselaw12.ExecPure'. -/
def execPureUptoCard : Claim7 := { stood := { row := execPureUptoRow, standIns := [], harness := (true, "7d4bd22da186cb4749c7edcb3af40e64ec0d7326190819c5c882e21dd7e74d57"), looks := false }, kinds := [], alts := [], laidByText := true, laidKinds := [.data, .data, .data, .data, .data, .data, .data, .data], laidTests := true, laidLooks := .later }
def ExecPureUptoCardSaid : Prop := Claim7.holds Tryz.pinned (.plain (OpenSpec.upto execPureSpec)) execPureUptoCard
end Rows
end Go.Proofs.YtlihklladkagpaaGreatDoor

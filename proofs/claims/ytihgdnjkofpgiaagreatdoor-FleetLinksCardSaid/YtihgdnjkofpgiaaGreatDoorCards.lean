/-
  DERIVED. GIVEN WITH THE SEED: THE CARDS: each row of YtihgdnjkofpgiaaGreatDoorRows.lean that lists a variable, with what it lists TIED to the program's text (the seventh form; the later family's looks); each row that meets fmt, with fmt's text TOLD by the authors' own Lean function (tested against real Go, not proved from fmt's source: count such statements apart). THE CARD IS WHAT COUNTS. Prove the row's statement (the work); the ties are given (YtihgdnjkofpgiaaGreatDoorTie.lean); close each card by the builder's one call (the guide's Derived/Test/ToyasCard.lean, 'card_holds'). Laid BY PROGRAM, IN A SANDBOX (cutbox-door.mjs). By AI agents, Wed Nov 11 2026. No macro, syntax, notation, axiom, sorry.
-/
import Derived.Test.YtihgdnjkofpgiaaGreatDoorRows
import GoSem.ClaimSeven
namespace Go.Proofs.YtihgdnjkofpgiaaGreatDoor
namespace Rows

/-- THE TIED CARD OF 'rootcauselaw13.FleetSlots'. -/
def fleetSlotsCard : Claim7 := { stood := { row := fleetSlotsRow, standIns := [], harness := (true, "a11fb97e6b7aa85e00328ad5d322f41e0d91ca1e59088c6878fb54f62f6b9fef"), looks := false }, kinds := [], alts := [], laidByText := true, laidKinds := [.data, .data, .data, .data, .data, .data, .data, .data, .data], laidTests := true, laidLooks := .later }
def FleetSlotsCardSaid : Prop := Claim7.holds Tryz.pinned (.plain (OpenSpec.ofChange fleetSlotsSpec)) fleetSlotsCard

/-- THE TIED CARD OF 'rootcauselaw13.FleetHandlers'. -/
def fleetHandlersCard : Claim7 := { stood := { row := fleetHandlersRow, standIns := [], harness := (true, "a11fb97e6b7aa85e00328ad5d322f41e0d91ca1e59088c6878fb54f62f6b9fef"), looks := false }, kinds := [], alts := [], laidByText := true, laidKinds := [.data, .data, .data, .data, .data, .data, .data, .data, .data], laidTests := true, laidLooks := .later }
def FleetHandlersCardSaid : Prop := Claim7.holds Tryz.pinned (.plain (OpenSpec.ofChange fleetHandlersSpec)) fleetHandlersCard

/-- THE TIED CARD OF 'rootcauselaw13.FleetUnits'. -/
def fleetUnitsCard : Claim7 := { stood := { row := fleetUnitsRow, standIns := [], harness := (true, "a11fb97e6b7aa85e00328ad5d322f41e0d91ca1e59088c6878fb54f62f6b9fef"), looks := false }, kinds := [], alts := [], laidByText := true, laidKinds := [.data, .data, .data, .data, .data, .data, .data, .data, .data], laidTests := true, laidLooks := .later }
def FleetUnitsCardSaid : Prop := Claim7.holds Tryz.pinned (.plain (OpenSpec.ofChange fleetUnitsSpec)) fleetUnitsCard

/-- THE TIED CARD OF 'rootcauselaw13.FleetLinks'. -/
def fleetLinksCard : Claim7 := { stood := { row := fleetLinksRow, standIns := [], harness := (true, "a11fb97e6b7aa85e00328ad5d322f41e0d91ca1e59088c6878fb54f62f6b9fef"), looks := false }, kinds := [], alts := [], laidByText := true, laidKinds := [.data, .data, .data, .data, .data, .data, .data, .data, .data], laidTests := true, laidLooks := .later }
def FleetLinksCardSaid : Prop := Claim7.holds Tryz.pinned (.plain (OpenSpec.ofChange fleetLinksSpec)) fleetLinksCard

/-- THE TIED CARD OF 'rootcauselaw13.FleetNames'. -/
def fleetNamesCard : Claim7 := { stood := { row := fleetNamesRow, standIns := [], harness := (true, "a11fb97e6b7aa85e00328ad5d322f41e0d91ca1e59088c6878fb54f62f6b9fef"), looks := false }, kinds := [], alts := [], laidByText := true, laidKinds := [.data, .data, .data, .data, .data, .data, .data, .data, .data], laidTests := true, laidLooks := .later }
def FleetNamesCardSaid : Prop := Claim7.holds Tryz.pinned (.plain (OpenSpec.ofChange fleetNamesSpec)) fleetNamesCard

/-- THE TIED CARD OF 'rootcauselaw13.FleetNil'. -/
def fleetNilCard : Claim7 := { stood := { row := fleetNilRow, standIns := [], harness := (true, "a11fb97e6b7aa85e00328ad5d322f41e0d91ca1e59088c6878fb54f62f6b9fef"), looks := false }, kinds := [], alts := [], laidByText := true, laidKinds := [.data, .data, .data, .data, .data, .data, .data, .data, .data], laidTests := true, laidLooks := .later }
def FleetNilCardSaid : Prop := Claim7.holds Tryz.pinned (.plain (OpenSpec.ofChange fleetNilSpec)) fleetNilCard

/-- THE SECOND FORM's CARD OF 'rootcauselaw13.FleetSlots'. -/
def fleetSlotsUptoCard : Claim7 := { stood := { row := fleetSlotsUptoRow, standIns := [], harness := (true, "a11fb97e6b7aa85e00328ad5d322f41e0d91ca1e59088c6878fb54f62f6b9fef"), looks := false }, kinds := [], alts := [], laidByText := true, laidKinds := [.data, .data, .data, .data, .data, .data, .data, .data, .data], laidTests := true, laidLooks := .later }
def FleetSlotsUptoCardSaid : Prop := Claim7.holds Tryz.pinned (.plain (OpenSpec.upto fleetSlotsSpec)) fleetSlotsUptoCard

/-- THE SECOND FORM's CARD OF 'rootcauselaw13.FleetHandlers'. -/
def fleetHandlersUptoCard : Claim7 := { stood := { row := fleetHandlersUptoRow, standIns := [], harness := (true, "a11fb97e6b7aa85e00328ad5d322f41e0d91ca1e59088c6878fb54f62f6b9fef"), looks := false }, kinds := [], alts := [], laidByText := true, laidKinds := [.data, .data, .data, .data, .data, .data, .data, .data, .data], laidTests := true, laidLooks := .later }
def FleetHandlersUptoCardSaid : Prop := Claim7.holds Tryz.pinned (.plain (OpenSpec.upto fleetHandlersSpec)) fleetHandlersUptoCard

/-- THE SECOND FORM's CARD OF 'rootcauselaw13.FleetUnits'. -/
def fleetUnitsUptoCard : Claim7 := { stood := { row := fleetUnitsUptoRow, standIns := [], harness := (true, "a11fb97e6b7aa85e00328ad5d322f41e0d91ca1e59088c6878fb54f62f6b9fef"), looks := false }, kinds := [], alts := [], laidByText := true, laidKinds := [.data, .data, .data, .data, .data, .data, .data, .data, .data], laidTests := true, laidLooks := .later }
def FleetUnitsUptoCardSaid : Prop := Claim7.holds Tryz.pinned (.plain (OpenSpec.upto fleetUnitsSpec)) fleetUnitsUptoCard

/-- THE SECOND FORM's CARD OF 'rootcauselaw13.FleetLinks'. -/
def fleetLinksUptoCard : Claim7 := { stood := { row := fleetLinksUptoRow, standIns := [], harness := (true, "a11fb97e6b7aa85e00328ad5d322f41e0d91ca1e59088c6878fb54f62f6b9fef"), looks := false }, kinds := [], alts := [], laidByText := true, laidKinds := [.data, .data, .data, .data, .data, .data, .data, .data, .data], laidTests := true, laidLooks := .later }
def FleetLinksUptoCardSaid : Prop := Claim7.holds Tryz.pinned (.plain (OpenSpec.upto fleetLinksSpec)) fleetLinksUptoCard

/-- THE SECOND FORM's CARD OF 'rootcauselaw13.FleetNames'. -/
def fleetNamesUptoCard : Claim7 := { stood := { row := fleetNamesUptoRow, standIns := [], harness := (true, "a11fb97e6b7aa85e00328ad5d322f41e0d91ca1e59088c6878fb54f62f6b9fef"), looks := false }, kinds := [], alts := [], laidByText := true, laidKinds := [.data, .data, .data, .data, .data, .data, .data, .data, .data], laidTests := true, laidLooks := .later }
def FleetNamesUptoCardSaid : Prop := Claim7.holds Tryz.pinned (.plain (OpenSpec.upto fleetNamesSpec)) fleetNamesUptoCard

/-- THE SECOND FORM's CARD OF 'rootcauselaw13.FleetNil'. -/
def fleetNilUptoCard : Claim7 := { stood := { row := fleetNilUptoRow, standIns := [], harness := (true, "a11fb97e6b7aa85e00328ad5d322f41e0d91ca1e59088c6878fb54f62f6b9fef"), looks := false }, kinds := [], alts := [], laidByText := true, laidKinds := [.data, .data, .data, .data, .data, .data, .data, .data, .data], laidTests := true, laidLooks := .later }
def FleetNilUptoCardSaid : Prop := Claim7.holds Tryz.pinned (.plain (OpenSpec.upto fleetNilSpec)) fleetNilUptoCard
end Rows
end Go.Proofs.YtihgdnjkofpgiaaGreatDoor

/-
  DERIVED. GIVEN WITH THE SEED: THE CARDS: each row of YtoehnbacbobhiaaGreatDoorRows.lean that lists a variable, with what it lists TIED to the program's text (the seventh form; the later family's looks); each row that meets fmt, with fmt's text TOLD by the authors' own Lean function (tested against real Go, not proved from fmt's source: count such statements apart). THE CARD IS WHAT COUNTS. Prove the row's statement (the work); the ties are given (YtoehnbacbobhiaaGreatDoorTie.lean); close each card by the builder's one call (the guide's Derived/Test/ToyasCard.lean, 'card_holds'). Laid BY PROGRAM, IN A SANDBOX (cutbox-door.mjs). By AI agents, Wed Nov 11 2026. No macro, syntax, notation, axiom, sorry.
-/
import Derived.Test.YtoehnbacbobhiaaGreatDoorRows
import GoSem.ClaimSeven
namespace Go.Proofs.YtoehnbacbobhiaaGreatDoor
namespace Rows

/-- THE TIED CARD OF 'rootcauselaw12.ExecUnits'. -/
def execUnitsCard : Claim7 := { stood := { row := execUnitsRow, standIns := [], harness := (true, "1af2a0aaf544459a97c4349cfbdd766ae313a1389c17662716bd4580e7120ea7"), looks := false }, kinds := [], alts := [], laidByText := true, laidKinds := [.data], laidTests := true, laidLooks := .later }
def ExecUnitsCardSaid : Prop := Claim7.holds Tryz.pinned (.plain (OpenSpec.ofChange execUnitsSpec)) execUnitsCard

/-- THE SECOND FORM's CARD OF 'rootcauselaw12.ExecUnits'. -/
def execUnitsUptoCard : Claim7 := { stood := { row := execUnitsUptoRow, standIns := [], harness := (true, "1af2a0aaf544459a97c4349cfbdd766ae313a1389c17662716bd4580e7120ea7"), looks := false }, kinds := [], alts := [], laidByText := true, laidKinds := [.data], laidTests := true, laidLooks := .later }
def ExecUnitsUptoCardSaid : Prop := Claim7.holds Tryz.pinned (.plain (OpenSpec.upto execUnitsSpec)) execUnitsUptoCard
end Rows
end Go.Proofs.YtoehnbacbobhiaaGreatDoor

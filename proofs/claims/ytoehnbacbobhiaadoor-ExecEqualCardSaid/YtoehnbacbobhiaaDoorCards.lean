/-
  DERIVED. GIVEN WITH THE SEED: THE CARDS: each row of YtoehnbacbobhiaaDoorRows.lean that lists a variable, with what it lists TIED to the program's text (the seventh form; the later family's looks); each row that meets fmt, with fmt's text TOLD by the authors' own Lean function (tested against real Go, not proved from fmt's source: count such statements apart). THE CARD IS WHAT COUNTS. Prove the row's statement (the work); the ties are given (YtoehnbacbobhiaaDoorTie.lean); close each card by the builder's one call (the guide's Derived/Test/ToyasCard.lean, 'card_holds'). Laid BY PROGRAM, IN A SANDBOX (cutbox-door.mjs). By AI agents, Wed Nov 11 2026. No macro, syntax, notation, axiom, sorry.
-/
import Derived.Test.YtoehnbacbobhiaaDoorRows
import GoSem.ClaimSeven
namespace Go.Proofs.YtoehnbacbobhiaaDoor
namespace Rows

/-- THE TIED CARD OF 'rootcauselaw12.ExecLoops'. -/
def execLoopsCard : Claim7 := { stood := { row := execLoopsRow, standIns := [], harness := (true, "f8d89047c8c399c57686e57cab2983107fb25c82fbcc20ee8ef674646689c665"), looks := false }, kinds := [], alts := [], laidByText := true, laidKinds := [.data], laidTests := true, laidLooks := .later }
def ExecLoopsCardSaid : Prop := Claim7.holds Tryd.pinned (.plain (OpenSpec.ofChange execLoopsSpec)) execLoopsCard

/-- THE TIED CARD OF 'rootcauselaw12.ExecEqual'. -/
def execEqualCard : Claim7 := { stood := { row := execEqualRow, standIns := [], harness := (true, "f8d89047c8c399c57686e57cab2983107fb25c82fbcc20ee8ef674646689c665"), looks := false }, kinds := [], alts := [], laidByText := true, laidKinds := [.data], laidTests := true, laidLooks := .later }
def ExecEqualCardSaid : Prop := Claim7.holds Tryd.pinned (.plain (OpenSpec.ofChange execEqualSpec)) execEqualCard

/-- THE SECOND FORM's CARD OF 'rootcauselaw12.ExecLoops'. -/
def execLoopsUptoCard : Claim7 := { stood := { row := execLoopsUptoRow, standIns := [], harness := (true, "f8d89047c8c399c57686e57cab2983107fb25c82fbcc20ee8ef674646689c665"), looks := false }, kinds := [], alts := [], laidByText := true, laidKinds := [.data], laidTests := true, laidLooks := .later }
def ExecLoopsUptoCardSaid : Prop := Claim7.holds Tryd.pinned (.plain (OpenSpec.upto execLoopsSpec)) execLoopsUptoCard

/-- THE SECOND FORM's CARD OF 'rootcauselaw12.ExecEqual'. -/
def execEqualUptoCard : Claim7 := { stood := { row := execEqualUptoRow, standIns := [], harness := (true, "f8d89047c8c399c57686e57cab2983107fb25c82fbcc20ee8ef674646689c665"), looks := false }, kinds := [], alts := [], laidByText := true, laidKinds := [.data], laidTests := true, laidLooks := .later }
def ExecEqualUptoCardSaid : Prop := Claim7.holds Tryd.pinned (.plain (OpenSpec.upto execEqualSpec)) execEqualUptoCard
end Rows
end Go.Proofs.YtoehnbacbobhiaaDoor

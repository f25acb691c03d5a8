/-
  DERIVED. GIVEN WITH THE SEED: THE CARDS: each row of YtllalpnmagpkfaaGreatDoorRows.lean that lists a variable, with what it lists TIED to the program's text (the seventh form; the later family's looks); each row that meets fmt, with fmt's text TOLD by the authors' own Lean function (tested against real Go, not proved from fmt's source: count such statements apart). THE CARD IS WHAT COUNTS. Prove the row's statement (the work); the ties are given (YtllalpnmagpkfaaGreatDoorTie.lean); close each card by the builder's one call (the guide's Derived/Test/ToyasCard.lean, 'card_holds'). Laid BY PROGRAM, IN A SANDBOX (cutbox-door.mjs). By AI agents, Wed Nov 11 2026. No macro, syntax, notation, axiom, sorry.
-/
import Derived.Test.YtllalpnmagpkfaaGreatDoorRows
import GoSem.ClaimSeven
namespace Go.Proofs.YtllalpnmagpkfaaGreatDoor
namespace Rows

/-- THE TIED CARD OF 'rootcauselaw11.CodeCompiles'. -/
def codeCompilesCard : Claim7 := { stood := { row := codeCompilesRow, standIns := [], harness := (true, "81677ee93149412e024d04b1927e424623aad63404f0464d48c2d91591e533c4"), looks := false }, kinds := [], alts := [], laidByText := true, laidKinds := [.data, .data, .data, .data, .data, .data, .data, .data], laidTests := true, laidLooks := .later }
def CodeCompilesCardSaid : Prop := Claim7.holds Tryz.pinned (.plain (OpenSpec.ofChange codeCompilesSpec)) codeCompilesCard

/-- THE TIED CARD OF 'rootcauselaw11.CodeTexts'. -/
def codeTextsCard : Claim7 := { stood := { row := codeTextsRow, standIns := [], harness := (true, "81677ee93149412e024d04b1927e424623aad63404f0464d48c2d91591e533c4"), looks := false }, kinds := [], alts := [], laidByText := true, laidKinds := [.data, .data, .data, .data, .data, .data, .data, .data], laidTests := true, laidLooks := .later }
def CodeTextsCardSaid : Prop := Claim7.holds Tryz.pinned (.plain (OpenSpec.ofChange codeTextsSpec)) codeTextsCard

/-- THE TIED CARD OF 'rootcauselaw11.CodeErrors'. -/
def codeErrorsCard : Claim7 := { stood := { row := codeErrorsRow, standIns := [], harness := (true, "81677ee93149412e024d04b1927e424623aad63404f0464d48c2d91591e533c4"), looks := false }, kinds := [], alts := [], laidByText := true, laidKinds := [.data, .data, .data, .data, .data, .data, .data, .data], laidTests := true, laidLooks := .later }
def CodeErrorsCardSaid : Prop := Claim7.holds Tryz.pinned (.plain (OpenSpec.ofChange codeErrorsSpec)) codeErrorsCard

/-- THE TIED CARD OF 'rootcauselaw11.CodeHandlers'. -/
def codeHandlersCard : Claim7 := { stood := { row := codeHandlersRow, standIns := [], harness := (true, "81677ee93149412e024d04b1927e424623aad63404f0464d48c2d91591e533c4"), looks := false }, kinds := [], alts := [], laidByText := true, laidKinds := [.data, .data, .data, .data, .data, .data, .data, .data], laidTests := true, laidLooks := .later }
def CodeHandlersCardSaid : Prop := Claim7.holds Tryz.pinned (.plain (OpenSpec.ofChange codeHandlersSpec)) codeHandlersCard

/-- THE TIED CARD OF 'rootcauselaw11.CodeCosts'. -/
def codeCostsCard : Claim7 := { stood := { row := codeCostsRow, standIns := [], harness := (true, "81677ee93149412e024d04b1927e424623aad63404f0464d48c2d91591e533c4"), looks := false }, kinds := [], alts := [], laidByText := true, laidKinds := [.data, .data, .data, .data, .data, .data, .data, .data], laidTests := true, laidLooks := .later }
def CodeCostsCardSaid : Prop := Claim7.holds Tryz.pinned (.plain (OpenSpec.ofChange codeCostsSpec)) codeCostsCard

/-- THE TIED CARD OF 'rootcauselaw11.CodeSpoils'. -/
def codeSpoilsCard : Claim7 := { stood := { row := codeSpoilsRow, standIns := [], harness := (true, "81677ee93149412e024d04b1927e424623aad63404f0464d48c2d91591e533c4"), looks := false }, kinds := [], alts := [], laidByText := true, laidKinds := [.data, .data, .data, .data, .data, .data, .data, .data], laidTests := true, laidLooks := .later }
def CodeSpoilsCardSaid : Prop := Claim7.holds Tryz.pinned (.plain (OpenSpec.ofChange codeSpoilsSpec)) codeSpoilsCard

/-- THE TIED CARD OF 'rootcauselaw11.CodeVerifies'. -/
def codeVerifiesCard : Claim7 := { stood := { row := codeVerifiesRow, standIns := [], harness := (true, "81677ee93149412e024d04b1927e424623aad63404f0464d48c2d91591e533c4"), looks := false }, kinds := [], alts := [], laidByText := true, laidKinds := [.data, .data, .data, .data, .data, .data, .data, .data], laidTests := true, laidLooks := .later }
def CodeVerifiesCardSaid : Prop := Claim7.holds Tryz.pinned (.plain (OpenSpec.ofChange codeVerifiesSpec)) codeVerifiesCard

/-- THE TIED CARD OF 'rootcauselaw11.CodeBytes'. -/
def codeBytesCard : Claim7 := { stood := { row := codeBytesRow, standIns := [], harness := (true, "81677ee93149412e024d04b1927e424623aad63404f0464d48c2d91591e533c4"), looks := false }, kinds := [], alts := [], laidByText := true, laidKinds := [.data, .data, .data, .data, .data, .data, .data, .data], laidTests := true, laidLooks := .later }
def CodeBytesCardSaid : Prop := Claim7.holds Tryz.pinned (.plain (OpenSpec.ofChange codeBytesSpec)) codeBytesCard

/-- THE TIED CARD OF 'rootcauselaw11.CodeValues'. -/
def codeValuesCard : Claim7 := { stood := { row := codeValuesRow, standIns := [], harness := (true, "81677ee93149412e024d04b1927e424623aad63404f0464d48c2d91591e533c4"), looks := false }, kinds := [], alts := [], laidByText := true, laidKinds := [.data, .data, .data, .data, .data, .data, .data, .data], laidTests := true, laidLooks := .later }
def CodeValuesCardSaid : Prop := Claim7.holds Tryz.pinned (.plain (OpenSpec.ofChange codeValuesSpec)) codeValuesCard

/-- THE SECOND FORM's CARD OF 'rootcauselaw11.CodeCompiles'. -/
def codeCompilesUptoCard : Claim7 := { stood := { row := codeCompilesUptoRow, standIns := [], harness := (true, "81677ee93149412e024d04b1927e424623aad63404f0464d48c2d91591e533c4"), looks := false }, kinds := [], alts := [], laidByText := true, laidKinds := [.data, .data, .data, .data, .data, .data, .data, .data], laidTests := true, laidLooks := .later }
def CodeCompilesUptoCardSaid : Prop := Claim7.holds Tryz.pinned (.plain (OpenSpec.upto codeCompilesSpec)) codeCompilesUptoCard

/-- THE SECOND FORM's CARD OF 'rootcauselaw11.CodeTexts'. -/
def codeTextsUptoCard : Claim7 := { stood := { row := codeTextsUptoRow, standIns := [], harness := (true, "81677ee93149412e024d04b1927e424623aad63404f0464d48c2d91591e533c4"), looks := false }, kinds := [], alts := [], laidByText := true, laidKinds := [.data, .data, .data, .data, .data, .data, .data, .data], laidTests := true, laidLooks := .later }
def CodeTextsUptoCardSaid : Prop := Claim7.holds Tryz.pinned (.plain (OpenSpec.upto codeTextsSpec)) codeTextsUptoCard

/-- THE SECOND FORM's CARD OF 'rootcauselaw11.CodeErrors'. -/
def codeErrorsUptoCard : Claim7 := { stood := { row := codeErrorsUptoRow, standIns := [], harness := (true, "81677ee93149412e024d04b1927e424623aad63404f0464d48c2d91591e533c4"), looks := false }, kinds := [], alts := [], laidByText := true, laidKinds := [.data, .data, .data, .data, .data, .data, .data, .data], laidTests := true, laidLooks := .later }
def CodeErrorsUptoCardSaid : Prop := Claim7.holds Tryz.pinned (.plain (OpenSpec.upto codeErrorsSpec)) codeErrorsUptoCard

/-- THE SECOND FORM's CARD OF 'rootcauselaw11.CodeHandlers'. -/
def codeHandlersUptoCard : Claim7 := { stood := { row := codeHandlersUptoRow, standIns := [], harness := (true, "81677ee93149412e024d04b1927e424623aad63404f0464d48c2d91591e533c4"), looks := false }, kinds := [], alts := [], laidByText := true, laidKinds := [.data, .data, .data, .data, .data, .data, .data, .data], laidTests := true, laidLooks := .later }
def CodeHandlersUptoCardSaid : Prop := Claim7.holds Tryz.pinned (.plain (OpenSpec.upto codeHandlersSpec)) codeHandlersUptoCard

/-- THE SECOND FORM's CARD OF 'rootcauselaw11.CodeCosts'. -/
def codeCostsUptoCard : Claim7 := { stood := { row := codeCostsUptoRow, standIns := [], harness := (true, "81677ee93149412e024d04b1927e424623aad63404f0464d48c2d91591e533c4"), looks := false }, kinds := [], alts := [], laidByText := true, laidKinds := [.data, .data, .data, .data, .data, .data, .data, .data], laidTests := true, laidLooks := .later }
def CodeCostsUptoCardSaid : Prop := Claim7.holds Tryz.pinned (.plain (OpenSpec.upto codeCostsSpec)) codeCostsUptoCard

/-- THE SECOND FORM's CARD OF 'rootcauselaw11.CodeSpoils'. -/
def codeSpoilsUptoCard : Claim7 := { stood := { row := codeSpoilsUptoRow, standIns := [], harness := (true, "81677ee93149412e024d04b1927e424623aad63404f0464d48c2d91591e533c4"), looks := false }, kinds := [], alts := [], laidByText := true, laidKinds := [.data, .data, .data, .data, .data, .data, .data, .data], laidTests := true, laidLooks := .later }
def CodeSpoilsUptoCardSaid : Prop := Claim7.holds Tryz.pinned (.plain (OpenSpec.upto codeSpoilsSpec)) codeSpoilsUptoCard

/-- THE SECOND FORM's CARD OF 'rootcauselaw11.CodeVerifies'. -/
def codeVerifiesUptoCard : Claim7 := { stood := { row := codeVerifiesUptoRow, standIns := [], harness := (true, "81677ee93149412e024d04b1927e424623aad63404f0464d48c2d91591e533c4"), looks := false }, kinds := [], alts := [], laidByText := true, laidKinds := [.data, .data, .data, .data, .data, .data, .data, .data], laidTests := true, laidLooks := .later }
def CodeVerifiesUptoCardSaid : Prop := Claim7.holds Tryz.pinned (.plain (OpenSpec.upto codeVerifiesSpec)) codeVerifiesUptoCard

/-- THE SECOND FORM's CARD OF 'rootcauselaw11.CodeBytes'. -/
def codeBytesUptoCard : Claim7 := { stood := { row := codeBytesUptoRow, standIns := [], harness := (true, "81677ee93149412e024d04b1927e424623aad63404f0464d48c2d91591e533c4"), looks := false }, kinds := [], alts := [], laidByText := true, laidKinds := [.data, .data, .data, .data, .data, .data, .data, .data], laidTests := true, laidLooks := .later }
def CodeBytesUptoCardSaid : Prop := Claim7.holds Tryz.pinned (.plain (OpenSpec.upto codeBytesSpec)) codeBytesUptoCard

/-- THE SECOND FORM's CARD OF 'rootcauselaw11.CodeValues'. -/
def codeValuesUptoCard : Claim7 := { stood := { row := codeValuesUptoRow, standIns := [], harness := (true, "81677ee93149412e024d04b1927e424623aad63404f0464d48c2d91591e533c4"), looks := false }, kinds := [], alts := [], laidByText := true, laidKinds := [.data, .data, .data, .data, .data, .data, .data, .data], laidTests := true, laidLooks := .later }
def CodeValuesUptoCardSaid : Prop := Claim7.holds Tryz.pinned (.plain (OpenSpec.upto codeValuesSpec)) codeValuesUptoCard
end Rows
end Go.Proofs.YtllalpnmagpkfaaGreatDoor

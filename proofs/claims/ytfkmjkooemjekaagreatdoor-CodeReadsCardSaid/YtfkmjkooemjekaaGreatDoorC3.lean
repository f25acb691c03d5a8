/- The heights of the stack, and the unit verified. Own text (walks printed by sx.py). -/
import Derived.Test.YtfkmjkooemjekaaGreatDoorL1
import Derived.Test.YtfkmjkooemjekaaGreatDoorC2
set_option linter.unusedVariables false
set_option linter.unusedSimpArgs false
namespace Go.Proofs.YtfkmjkooemjekaaGreatDoor
open Go.RowKit Go.Flow Go.Mem Go.Sep
def okH (y v : Int) : Prop := y < 0 ∨ y = v
instance (y v : Int) : Decidable (okH y v) := inferInstanceAs (Decidable (_ ∨ _))
theorem getD_of {l : List Int} {i : Nat} {y : Int} (h : l[i]? = some y) : l.getD i 0 = y := by rw [List.getD_eq_getElem?_getD, h]; rfl
end Go.Proofs.YtfkmjkooemjekaaGreatDoor

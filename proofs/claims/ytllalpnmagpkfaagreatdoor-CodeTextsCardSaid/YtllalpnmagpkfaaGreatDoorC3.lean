/- The heights of the stack, and the unit verified. Own text (walks printed by sx.py). -/
import Derived.Test.YtllalpnmagpkfaaGreatDoorC2
set_option linter.unusedVariables false
set_option linter.unusedSimpArgs false
namespace Go.Proofs.YtllalpnmagpkfaaGreatDoor
open Go.RowKit Go.Flow Go.Mem Go.Sep
def okH (y v : Int) : Prop := y < 0 ∨ y = v
instance (y v : Int) : Decidable (okH y v) := inferInstanceAs (Decidable (_ ∨ _))
theorem getD_of {l : List Int} {i : Nat} {y : Int} (h : l[i]? = some y) : l.getD i 0 = y := by rw [List.getD_eq_getElem?_getD, h]; rfl
theorem all_set {l : List Int} {i : Nat} {v lo hi : Int} (h : ∀ y ∈ l, lo ≤ y ∧ y ≤ hi) (hv : lo ≤ v ∧ v ≤ hi) : ∀ y ∈ l.set i v, lo ≤ y ∧ y ≤ hi := fun y hy => by
 rcases List.mem_or_eq_of_mem_set hy with h1 | rfl
 · exact h y h1
 · exact hv
end Go.Proofs.YtllalpnmagpkfaaGreatDoor

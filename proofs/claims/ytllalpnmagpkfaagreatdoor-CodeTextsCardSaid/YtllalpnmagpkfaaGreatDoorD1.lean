/- A number read: seven bits to a byte. Own text (walks printed by sx.py). -/
import Derived.Test.YtllalpnmagpkfaaGreatDoorC9
import Derived.Test.YtllalpnmagpkfaaGreatDoorL3
set_option linter.unusedVariables false
set_option linter.unusedSimpArgs false
namespace Go.Proofs.YtllalpnmagpkfaaGreatDoor
open Go.RowKit Go.Flow Go.Mem Go.Sep
def encY (n : Nat) : List Value := [.int .u8 ((n : Nat) : Int)]
theorem encY_ok : Enc encY 1 := ⟨fun _ => rfl, fun x u hu => by simp [encY] at hu; subst hu; rfl⟩
section
variable {P : Program} {o : Oper} {ρ : Slots} {Γ : List Chunk} {x y : Operand} {t t' : TypeId} {a b j : Nat}
end
end Go.Proofs.YtllalpnmagpkfaaGreatDoor

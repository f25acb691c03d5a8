/- The example of the chapter, and instructions that go round without cost. Plain facts. Own text. -/
import Derived.Test.YtoehnbacbobhiaaGreatDoorX10
set_option linter.unusedVariables false
set_option linter.unusedSimpArgs false
namespace Go.Proofs.YtoehnbacbobhiaaGreatDoor
open Go.Sep
theorem runV_addr {A : Option Addr} {q : Nat} {l : List Ins} : ∀ (f : Nat) (d : Dv), runV (s0 A q l) f d = runV (s0 none 0 l) f d
  | 0, _ => rfl
  | f + 1, d => by
    unfold runV
    have e : ∀ x d, stepV (s0 A q l) x d = stepV (s0 none 0 l) x d := fun _ _ => rfl
    simp only [e]
    split
    · split
      · rfl
      · exact runV_addr f _
    · rfl
def exC0 : List Ins := [⟨29, 0, 0, 0⟩, ⟨1, 0, 0, 1⟩, ⟨28, 8, 0, 0⟩, ⟨29, 0, 0, 0⟩, ⟨2, 0, 0, 0⟩, ⟨1, 0, 0, 1⟩, ⟨14, 0, 0, 0⟩, ⟨24, 0, 0, 0⟩, ⟨27, 0, 0, 0⟩]
def exC : List Ins := [⟨29, 0, 0, 0⟩, ⟨1, 0, 0, 1⟩, ⟨28, 9, 0, 0⟩, ⟨29, 0, 0, 0⟩, ⟨2, 0, 0, 0⟩, ⟨1, 0, 0, 1⟩, ⟨14, 0, 0, 0⟩, ⟨24, 0, 0, 0⟩, ⟨27, 0, 0, 0⟩]
theorem ex_verify : verifyV 0 2 exC = 0 := by decide +kernel
theorem ex_refers : ∀ x ∈ exC, referB x 1 0 0 = true := by decide +kernel
instance (x : Ins) : Decidable (Simple x) := by unfold Simple; infer_instance
theorem ex_simple : ∀ x ∈ exC, Simple x := by decide +kernel
theorem ex_run : runV (s0 none 0 exC) 1048576 (d0V [5]) = ⟨[105], [], [], [faultE], 200, [], 1, 0, 0, true⟩ := by decide +kernel
end Go.Proofs.YtoehnbacbobhiaaGreatDoor

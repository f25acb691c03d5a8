/- Small whole numbers (bytes): quotients, shifts, masks. Own text. -/
import Derived.Test.YtoehnbacbobhiaaDoorSepup
namespace Go.Sep
open Go.RowKit Go.Flow Go.Mem
section
variable {P : Program} {o : Oper} {ρ : Slots} {Γ : List Chunk} {x y : Operand} {t t' : TypeId} {a b j : Nat}
theorem wrapU8 {n : Nat} (h : n < 256) : IntKind.u8.wrap (n : Int) = (n : Int) := IntWalk.u8_in _ (by omega)
theorem Rd.quo8 (ho : o.op = .binOp .quo t x y t') (hx : ev ρ x = some (.int .u8 (a : Int))) (hy : ev ρ y = some (.int .u8 (b : Int))) (h0 : 0 < b) (h : a < 256) : Rd P o ρ Γ (.int .u8 ((a / b : Nat) : Int)) := Rd.bin ho hx hy fun w => by
  have h3 : a / b ≤ a := Nat.div_le_self _ _
  have h4 : b ≠ 0 := by omega
  have e1 : ((a : Int).tdiv b) = ((a / b : Nat) : Int) := by rw [Int.tdiv_eq_ediv_of_nonneg (by omega), ← Int.natCast_ediv]
  have e2 : IntKind.u8.wrap ((a : Int).tdiv b) = ((a / b : Nat) : Int) := by rw [e1]; exact wrapU8 (by omega)
  simp only [eqGuard, binOp, Op.intDiv]
  simp [h4]
  exact e2
end
end Go.Sep

/- Merged out of V1, V2 by merge.py. Own text. -/
import Derived.Test.YtihgdnjkofpgiaaGreatDoorQe
import Derived.Test.YtihgdnjkofpgiaaGreatDoorYa
set_option linter.unusedVariables false
set_option linter.unusedSimpArgs false
namespace Go.Proofs.YtihgdnjkofpgiaaGreatDoor
open Go.RowKit Go.Flow Go.Mem Go.Sep Go.In
theorem Rd.addZ{P:Program}{o:Oper}{ρ:Slots}{Γ:List Chunk}{x y:Operand}{t t':TypeId}{a b:ByteArray}(ho:o.op= .binOp .add t x y t')(hx:ev ρ x=some (.string a))(hy:ev ρ y=some (.string b))(hl:a.size+b.size≤140737488355328):Rd P o ρ Γ (.string (a++b)):=Rd.bin ho hx hy fun w=>by
 simp[eqGuard,binOp,Op.stringOp];omega
def fdH(l:List Vs)(s:ByteArray):Option Hd:=(l.flatMap Vs.l).find? (fun x:Hd=>decide (x.name=s))
end Go.Proofs.YtihgdnjkofpgiaaGreatDoor

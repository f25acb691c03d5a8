/- The reference: operands, jumps, moves, the form of an instruction. Own text (walks printed by sx.py). -/
import Derived.Test.YtfkmjkooemjekaaGreatDoorL1
import Derived.Test.YtfkmjkooemjekaaGreatDoorC4
set_option linter.unusedVariables false
set_option linter.unusedSimpArgs false
namespace Go.Proofs.YtfkmjkooemjekaaGreatDoor
open Go.RowKit Go.Flow Go.Mem Go.Sep
def Ins.rcells (e : Ins) : List Value := [.int .i64 ((e.op : Nat) : Int), .int .i64 e.a, .int .i64 e.b, .int .i64 e.n]
theorem encRi : Enc Ins.rcells 4 := ⟨fun _ => rfl, fun e u hu => by
  simp only [Ins.rcells, List.mem_cons, List.not_mem_nil, or_false] at hu
  rcases hu with rfl | rfl | rfl | rfl <;> rfl⟩
end Go.Proofs.YtfkmjkooemjekaaGreatDoor

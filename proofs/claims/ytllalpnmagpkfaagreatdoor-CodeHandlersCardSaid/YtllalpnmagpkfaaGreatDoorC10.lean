/- Own text. -/
import Derived.Test.YtllalpnmagpkfaaGreatDoorCb
set_option linter.unusedVariables false
set_option linter.unusedSimpArgs false
namespace Go.Sep
open Go.RowKit Go.Flow Go.Mem
section
variable{P:Program}
variable{o:Oper}{ρ:Slots}{Γ:List Chunk}{x y:Operand}
end
end Go.Sep

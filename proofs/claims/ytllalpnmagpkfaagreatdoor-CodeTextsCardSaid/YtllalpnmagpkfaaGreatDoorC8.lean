/- The reference's verdict is the program's: plain. Own text. -/
import Derived.Test.YtllalpnmagpkfaaGreatDoorC7
set_option linter.unusedVariables false
set_option linter.unusedSimpArgs false
namespace Go.Proofs.YtllalpnmagpkfaaGreatDoor
open Go.RowKit Go.Flow Go.Mem Go.Sep
end Go.Proofs.YtllalpnmagpkfaaGreatDoor

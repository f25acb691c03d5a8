/- Own text. -/
import Derived.Test.YtihgdnjkofpgiaaGreatDoorNk
import Derived.Test.YtihgdnjkofpgiaaGreatDoorUw
set_option linter.unusedVariables false
namespace Go.Proofs.YtihgdnjkofpgiaaGreatDoor
open Go.Proofs.Tryz
open Go.ChangeShapes Go.WideShapes Go.ChangeAt Go.RowKit Go.Flow Go.Mem Go.Sep
theorem namesDone_law(c:Int)(v:Int){w:wD}{p:Pl}(hp:p.Ok)(rp:(all p.kids).holds w)(g:oks [gAc,glc,Fx,Uf] w)(g10:p10c.holds w):
    Calls prog 7 #[.agg (cL p []).toArray,iv c,iv v] w fun e w'=>e= .returned (bt)∧Ext w w':=
 lC (aSx p hp c v) (by show owns p.kids++[]=[];rw[(Pl.lax p).owns];rfl) (Jg rp (Jg (g _ sm) (Jg (g _ sm) (Jg g10 (Jg (g _ sm) (uL (g _ sm)))))))
end Go.Proofs.YtihgdnjkofpgiaaGreatDoor

/- Own text. -/
import Derived.Test.YtihgdnjkofpgiaaGreatDoorNk
import Derived.Test.YtihgdnjkofpgiaaGreatDoorUw
set_option linter.unusedVariables false
namespace Go.Proofs.YtihgdnjkofpgiaaGreatDoor
open Go.Proofs.Tryz
open Go.ChangeShapes Go.WideShapes Go.ChangeAt Go.RowKit Go.Flow Go.Mem Go.Sep
theorem linksDone_law(a:Int)(b:Int){w:wD}{p:Pl}(hp:p.Ok)(rp:(all p.kids).holds w)(g:oks [gAc,ay,Gz,Xw] w)(g10:ax.holds w):
    Calls prog 6 #[.agg (cL p []).toArray,iv a,iv b] w fun e w'=>e= .returned (bt)∧Ext w w':=
 QL (GJ aHn aHo p hp a b) (by show owns p.kids++[]=[];rw[(Pl.lax p).owns];rfl) (Ws rp (Ws (g _ sm) (Ws (g _ sm) (Ws g10 (Ws (g _ sm) (XD (g _ sm)))))))
end Go.Proofs.YtihgdnjkofpgiaaGreatDoor

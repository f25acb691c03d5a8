/- Own text. -/
import Derived.Test.YtihgdnjkofpgiaaGreatDoorUp
import Derived.Test.YtihgdnjkofpgiaaGreatDoorUw
set_option linter.unusedVariables false
set_option linter.unusedSimpArgs false
namespace Go.Proofs.YtihgdnjkofpgiaaGreatDoor
open Go.Proofs.Tryz
open Go.ChangeShapes Go.WideShapes Go.ChangeAt Go.RowKit Go.Flow Go.Mem Go.Sep
theorem slotsDone_law(c:Int)(v:Int){w:World}{p:Pl}(hp:p.Ok)(rp:(all p.kids).holds w)(g:oks [gAc,glc,Fx,Uf] w)(g10:p10c.holds w):
    Calls prog 3 #[.agg (cL p []).toArray, .int .i64 c, .int .i64 v] w fun e w'=>e= .returned (.bool true)∧Ext w w':=
 lC (XU p hp c v) (by show owns p.kids++[]=[];rw[(Pl.lax p).owns];rfl) (Jg rp (Jg (g _ (by simp)) (Jg (g _ (by simp)) (Jg g10 (Jg (g _ (by simp)) (uL (g _ (by simp))))))))
end Go.Proofs.YtihgdnjkofpgiaaGreatDoor

/- Own text. -/
import Derived.Test.YtihgdnjkofpgiaaGreatDoorUq
import Derived.Test.YtihgdnjkofpgiaaGreatDoorUw
set_option linter.unusedVariables false
set_option linter.unusedSimpArgs false
namespace Go.Proofs.YtihgdnjkofpgiaaGreatDoor
open Go.Proofs.Tryz
open Go.ChangeShapes Go.WideShapes Go.ChangeAt Go.RowKit Go.Flow Go.Mem Go.Sep
theorem handsDone_law(a:Int)(h:Int){w:World}{p:Pl}(hp:p.Ok)(rp:(all p.kids).holds w)(g:oks [gAc,glc,Fx,Uf] w)(g10:p10c.holds w):
    Calls prog 4 #[.agg (cL p []).toArray, .int .i64 a, .int .i64 h] w fun e w'=>e= .returned (.bool true)∧Ext w w':=
 lC (QU p hp a h) (by show owns p.kids++[]=[];rw[(Pl.lax p).owns];rfl) (Jg rp (Jg (g _ (by simp)) (Jg (g _ (by simp)) (Jg g10 (Jg (g _ (by simp)) (uL (g _ (by simp))))))))
end Go.Proofs.YtihgdnjkofpgiaaGreatDoor

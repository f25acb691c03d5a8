/- Own text. -/
import Derived.Test.YtihgdnjkofpgiaaGreatDoorUr
import Derived.Test.YtihgdnjkofpgiaaGreatDoorUw
set_option linter.unusedVariables false
set_option linter.unusedSimpArgs false
namespace Go.Proofs.YtihgdnjkofpgiaaGreatDoor
open Go.Proofs.Tryz
open Go.ChangeShapes Go.WideShapes Go.ChangeAt Go.RowKit Go.Flow Go.Mem Go.Sep
theorem unitsDone_law{w:World}{p:Pl}(hp:p.Ok)(rp:(all p.kids).holds w)(g:oks [gAc,glc,Fx,Uf] w)(g10:p10c.holds w):
    Calls prog 5 #[.agg (cL p []).toArray] w fun e w'=>e= .returned (.bool true)∧Ext w w':=
 lC (QV p hp) (by show owns p.kids++[]=[];rw[(Pl.lax p).owns];rfl) (Jg rp (Jg (g _ (by simp)) (Jg (g _ (by simp)) (Jg g10 (Jg (g _ (by simp)) (uL (g _ (by simp))))))))
end Go.Proofs.YtihgdnjkofpgiaaGreatDoor

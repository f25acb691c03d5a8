/- Own text. -/
import Derived.Test.YtllalpnmagpkfaaGreatDoorN3
import Derived.Test.YtllalpnmagpkfaaGreatDoorS3
import Derived.Lib.LaidTab
set_option linter.unusedVariables false
set_option linter.unusedSimpArgs false
namespace Go.Proofs.YtllalpnmagpkfaaGreatDoor
open Go.Proofs.Tryz
open Go.ChangeShapes Go.WideShapes Go.ChangeAt Go.RowKit Go.Flow Go.Mem Go.Sep
theorem varc_of{P:Program}{W:World}{name:String}{g:Nat}{cs:Array Value}(hg:P.globalNamed name=some g)(hv:W.var? P name=some cs):(varc g cs).holds W:=by
 unfold World.var? at hv
 rw[hg]at hv
 have hv2:(match W.heap[g]? with|some (.cells cs _ _)=>some cs|_=>none)=some cs:=hv
 split at hv2
 · rename_i cs' t f heq
   cases hv2
   exact⟨t,f,heq⟩
 ·cases hv2
set_option maxRecDepth 100000 in
theorem p10_holds{W:World}(h:laidMetH prog laidT W):p10c.holds W:=by
 rw[MakeChecks.laidMetH_plain _ _ _ (by kernel_rfl)]at h
 obtain⟨ps,hL,_⟩:=h
 obtain⟨_,_,_,_,_,_,_,_,_,_,hL,_⟩:=hL
 obtain⟨_,_,_,_,_,_,_,_,_,_,hL,_⟩:=hL
 obtain⟨g0,t0,cs0,f0,p0,q0,hg0,ht0,hv0,hd0,_,_⟩:=hL
 obtain rfl:=Option.some.inj ((show prog.globalNamed "internal/strconv.uint64pow10" =some 1 by kernel_rfl).symm.trans hg0)
 obtain rfl:=Option.some.inj ((show(prog.globals[1]?).map (·.type)=some 382 by kernel_rfl).symm.trans ht0)
 rw[show(Rows.laid_internal_strconv_uint64pow10:DataW Unit)=Lib.tabData .u64 Lib.pow10Tab by kernel_rfl]at hd0
 have hc:=Lib.cells_of_tab underlying382 underlying227 (by kernel_rfl) (by kernel_rfl) hd0
 have hcs:cs0=(Lib.pow10Tab.map fun z=>Value.int .u64 z).toArray:=by rw[←hc,Array.toArray_toList]
 have hv:=varc_of hg0 hv0
 rw[hcs]at hv
 exact hv
theorem three{zs:List Int}(h:zs.length=3):∃a b c,zs=[a,b,c]:=by
 match zs,h with
 |[a,b,c],_=>exact⟨a,b,c,rfl⟩
theorem handlers_law(a0 a1 a2:Int){w:World}{p:Pl}(hp:p.Ok)(rp:(all p.kids).holds w)(g:oks [glc,tabC] w)(g10:p10c.holds w):
    Calls prog 6 #[.agg (cL p []).toArray, .agg #[.int .i64 a0, .int .i64 a1, .int .i64 a2]] w fun e w'=>e= .returned (.bool true)∧Ext w w':=
 Does.law (handlers_ok p hp a0 a1 a2) (by show owns p.kids++[]=[];rw[(Pl.lax p).owns];rfl) (oks_more rp (oks_more (g _ (by simp)) (oks_more g10 (oks_one (g _ (by simp))))))
end Go.Proofs.YtllalpnmagpkfaaGreatDoor

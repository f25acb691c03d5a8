/- The powers of ten, opened; FleetNil: the call of the law. Own text. -/
import Derived.Test.YtihgdnjkofpgiaaGreatDoorUn
import Derived.Test.YtihgdnjkofpgiaaGreatDoorC12
import Derived.Lib.LaidTab
set_option linter.unusedVariables false
set_option linter.unusedSimpArgs false
namespace Go.Proofs.YtihgdnjkofpgiaaGreatDoor
open Go.ChangeShapes Go.WideShapes Go.ChangeAt Go.RowKit Go.Flow Go.Mem Go.Sep
theorem varc_of{P:Program}{W:World}{name:String}{g:Nat}{cs:Array Value}(hg:P.globalNamed name=some g)(hv:W.var? P name=some cs):(varc g cs).holds W:=by
 unfold World.var? at hv
 rw[hg]at hv
 have hv2:(match W.heap[g]? with|some (.cells cs _ _)=>some cs|_=>none)=some cs:=hv
 split at hv2
 · rename_i cs' t f heq
   cases hv2
   exact⟨t,f,heq⟩
 ·cases hv2
set_option maxRecDepth 100000 in
theorem p10_holds{W:World}(h:laidMetH Tryz.prog laidT W):p10c.holds W:=by
 rw[MakeChecks.laidMetH_plain _ _ _ (by kernel_rfl)]at h
 obtain⟨ps,hL,_⟩:=h
 obtain⟨_,_,_,_,_,_,_,_,_,_,hL,_⟩:=hL
 obtain⟨_,_,_,_,_,_,_,_,_,_,hL,_⟩:=hL
 obtain⟨g0,t0,cs0,f0,p0,q0,hg0,ht0,hv0,hd0,_,_⟩:=hL
 obtain rfl:=Option.some.inj ((show Tryz.prog.globalNamed "internal/strconv.uint64pow10" =some 1 by kernel_rfl).symm.trans hg0)
 obtain rfl:=Option.some.inj ((show(Tryz.prog.globals[1]?).map (·.type)=some 323 by kernel_rfl).symm.trans ht0)
 rw[show(Rows.laid_internal_strconv_uint64pow10:DataW Unit)=Lib.tabData .u64 Lib.pow10Tab by kernel_rfl]at hd0
 have hc:=Lib.cells_of_tab Tryz.underlying323 Tryz.underlying268 (by kernel_rfl) (by kernel_rfl) hd0
 have hcs:cs0=(Lib.pow10Tab.map fun z=>Value.int .u64 z).toArray:=by rw[←hc,Array.toArray_toList]
 have hv:=varc_of hg0 hv0
 rw[hcs]at hv
 exact hv
theorem nil_law(a b:Int)(s:ByteArray){w:World}(g:oks [gAc,glc,tabC,cstC] w)(g10:p10c.holds w):
    Calls Tryz.prog 8 #[.int .i64 a, .int .i64 b, .string s] w fun e w'=>e= .returned (.bool true)∧Ext w w':=
 Does.law (nil_fn a b s) rfl (oks_more (g _ (by simp)) (oks_more (g _ (by simp)) (oks_more g10 (oks_more (g _ (by simp)) (oks_one (g _ (by simp)))))))
end Go.Proofs.YtihgdnjkofpgiaaGreatDoor

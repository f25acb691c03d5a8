/- Own text. -/
import Derived.Test.YtlihklladkagpaaGreatDoorE9
import Derived.Test.YtlihklladkagpaaGreatDoorXm
import Derived.Lib.LaidTab
set_option linter.unusedVariables false
set_option linter.unusedSimpArgs false
namespace Go.Proofs.YtlihklladkagpaaGreatDoor
open Go.Proofs.Tryz
open Go.ChangeShapes Go.WideShapes Go.ChangeAt Go.RowKit Go.Flow Go.Mem Go.Sep
theorem UM{P:Program}{W:World}{name:String}{g:Nat}{cs:Array Value}(hg:P.globalNamed name=some g)(hv:W.var? P name=some cs):(varc g cs).holds W:=by
 unfold World.var? at hv
 rw[hg]at hv
 have hv2:(match W.heap[g]? with|some (.cells cs _ _)=>some cs|_=>none)=some cs:=hv
 split at hv2
 · rename_i cs' t f heq
   cases hv2
   exact⟨t,f,heq⟩
 ·cases hv2
set_option maxRecDepth 100000 in
theorem IM{W:World}(h:laidMetH prog VV W):p10c.holds W:=by
 rw[MakeChecks.laidMetH_plain _ _ _ (by kernel_rfl)]at h
 obtain⟨ps,hL,_⟩:=h
 obtain⟨_,_,_,_,_,_,_,_,_,_,hL,_⟩:=hL
 obtain⟨_,_,_,_,_,_,_,_,_,_,hL,_⟩:=hL
 obtain⟨g0,t0,cs0,f0,p0,q0,hg0,ht0,hv0,hd0,_,_⟩:=hL
 obtain rfl:=aEn ((show prog.globalNamed "internal/strconv.uint64pow10" =some 6 by kernel_rfl).symm.trans hg0)
 obtain rfl:=aEn ((show(prog.globals[6]?).map (·.type)=some 380 by kernel_rfl).symm.trans ht0)
 rw[show(Rows.laid_internal_strconv_uint64pow10:DataW Unit)=Lib.tabData .u64 Lib.pow10Tab by kernel_rfl]at hd0
 have hc:=Lib.cells_of_tab underlying380 underlying267 (by kernel_rfl) (by kernel_rfl) hd0
 have hcs:cs0=(Lib.pow10Tab.map fun z=>Value.int .u64 z).toArray:=by rw[←hc,Array.toArray_toList]
 have hv:=UM hg0 hv0
 rw[hcs]at hv
 exact hv
section
variable{H:Type}{ench:TypeId×Value→H}{w:World}{base:Nat}{spare:Nat→Bool}{held:Bool}
set_option maxRecDepth 100000 in
theorem yX{r:Reach}{b0:Nat}{v:Value}{d:DataW H}{ps:List MemPlace}(hval:Value.okWide prog w r b0 27 v)(hd:DataW.Trod ench prog w base spare held 27 v d ps):
    ∃a1 a2 a3:Nat,v= .agg #[.int .u8 ((a1:Nat):Int), .int .u8 ((a2:Nat):Int), .int .u8 ((a3:Nat):Int)]∧a1<256∧a2<256∧a3<256:=by
 simp only[Value.okWide,underlying27]at hval
 obtain⟨cs,rfl,hsz,_⟩:=hval
 obtain⟨fuel,hf⟩:=hd
 have hl:cs.toList.length=3:=by rw[Array.length_toList,hsz];kernel_rfl
 have hf2:DataW.trod ench prog w base spare held fuel 27 cs.toList=some (d,ps):=hf
 obtain⟨l⟩:=cs
 match l,hl with
 | [c0,c1,c2],_=>
   obtain⟨_,_,g0⟩:=Eh underlying27 hf2 0 _ rfl (by kernel_rfl) (c:=c0) rfl
   obtain⟨_,_,g1⟩:=Eh underlying27 hf2 1 _ rfl (by kernel_rfl) (c:=c1) rfl
   obtain⟨_,_,g2⟩:=Eh underlying27 hf2 2 _ rfl (by kernel_rfl) (c:=c2) rfl
   obtain⟨n0,e0,_,w0⟩:=DataW.trod_int underlying5 g0
   obtain⟨n1,e1,_,w1⟩:=DataW.trod_int underlying5 g1
   obtain⟨n2,e2,_,w2⟩:=DataW.trod_int underlying5 g2
   have b0:=bounds_u8 w0
   have b1:=bounds_u8 w1
   have b2:=bounds_u8 w2
   simp only[List.cons.injEq,and_true]at e0 e1 e2
   subst e0 e1 e2
   exact⟨n0.toNat,n1.toNat,n2.toNat,by simp only[Int.toNat_of_nonneg b0.1,Int.toNat_of_nonneg b1.1,Int.toNat_of_nonneg b2.1],by omega,by omega,by omega⟩
end
theorem lD{w:World}{p:Pl}{a1 a2 a3:Nat}{x:Wx}(hp:p.Ok)(h1:a1<256)(h2:a2<256)(h3:a3<256)(hw:x.ok)(hwf:x.flags<256)(rp:(all p.kids).holds w)(r0:(ros encI x.Av x.vars).holds w)(r1:(ros Be x.At x.tabs).holds w)(r2:(ros Be x.Ad x.disk).holds w)(r3:(ros encI x.Aa x.args).holds w)(r4:(ros Gw x.Af x.fail).holds w)(g:oks [glc,Kn] w)(g10:p10c.holds w):
    Calls prog 4 #[.agg (cL p []).toArray, .agg #[.int .u8 ((a1:Nat):Int), .int .u8 ((a2:Nat):Int), .int .u8 ((a3:Nat):Int)], .agg x.cells.toArray] w fun e w'=>e= .returned (.bool true)∧Ext w w':=
 IZ (lQ p hp a1 a2 a3 h1 h2 h3 x hw hwf) (by show owns p.kids++[]=[];rw[(Pl.lax p).owns];rfl) (Qp rp (Qp (g _ (by simp)) (Qp g10 (Qp (g _ (by simp)) (Qp r0 (Qp r1 (Qp r2 (Qp r3 (PW r4)))))))))
end Go.Proofs.YtlihklladkagpaaGreatDoor

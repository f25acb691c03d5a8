/- Own text. -/
import Derived.Test.YtihgdnjkofpgiaaGreatDoorC12
import Derived.Lib.LaidTab
set_option linter.unusedVariables false
set_option linter.unusedSimpArgs false
namespace Go.Proofs.YtihgdnjkofpgiaaGreatDoor
open Go.Proofs.Tryz
open Go.ChangeShapes Go.WideShapes Go.ChangeAt Go.RowKit Go.Flow Go.Mem Go.Sep
section
variable{H:Type}{ench:TypeId×Value→H}{w:World}{base:Nat}{spare:Nat→Bool}{held:Bool}
theorem sH{fuel:Nat}{cs:List Value}{x:DataW H×List MemPlace}(h:DataW.trod ench prog w base spare held fuel 22 cs=some x):
    ∃(A:OA) (l:List Nat) (cap:Nat),cs=[vs A l cap]∧okB l cap∧(ros Fa A l).holds w:=by
 obtain⟨A,l,cap,h1,h2,h3,h4,_⟩:=open_list (enc:=Fa) (size:=1) (fun _=>rfl) (by decide) (fun x:Nat=>x<256) underlying22 (by kernel_rfl) (fun n cs' x' h' hl=>by
  obtain⟨z,hz,_,hw⟩:=DataW.trod_int underlying5 h';have hb:=bounds_u8 hw;exact⟨z.toNat,by rw[hz,Fa];show _=[Value.int .u8 ((z.toNat:Nat):Int)];rw[Int.toNat_of_nonneg hb.1],by omega⟩) h
 exact⟨A,l,cap,h1,⟨h3,h4⟩,h2⟩
abbrev aHr(w:World)(c:Cd):Prop:=c.Ok∧(ros Fa c.B c.bl).holds w
theorem aCw{fuel:Nat}{cs:List Value}{x:DataW H×List MemPlace}(h:DataW.trod ench prog w base spare held fuel 183 cs=some x)(hl:cs.length=2):∃e:Cd,cs=Mi e∧aHr w e:=by
 match cs,hl with
 | [c0,c1],_=>
   obtain⟨_,_,g0⟩:=Kh underlying183 h 0 _ rfl (by kernel_rfl) (c:=c0) rfl;obtain⟨_,_,g1⟩:=Kh underlying183 h 1 _ rfl (by kernel_rfl) (c:=c1) rfl;obtain⟨n0,e0,_,w0⟩:=DataW.trod_int underlying5 g0;obtain⟨A,l,q,e1,k1,r1⟩:=sH g1;have b0:=bounds_u8 w0;simp only[aQa,and_true]at e0 e1;subst e0 e1;exact⟨⟨n0.toNat,A,q,l⟩,by show _=[Value.int .u8 ((n0.toNat:Nat):Int),_];rw[Int.toNat_of_nonneg b0.1],⟨by show n0.toNat<256;omega,k1⟩,r1⟩
theorem BM{fuel:Nat}{cs:List Value}{x:DataW H×List MemPlace}(h:DataW.trod ench prog w base spare held fuel 174 cs=some x):
    ∃(A:OA) (l:List Cd) (cap:Nat),cs=[vs A l cap]∧l.length≤cap∧(ros Mi A l).holds w∧∀e∈l,aHr w e:=by
 obtain⟨A,l,cap,h1,h2,h3,h4,_⟩:=open_list (enc:=Mi) (size:=2) (fun _=>rfl) (by decide) (aHr w) underlying174 (by kernel_rfl) (fun n cs' x' h' hl=>aCw h' hl) h;exact⟨A,l,cap,h1,h4,h2,h3⟩
abbrev aLv(w:World)(c:Pt):Prop:=c.Ok∧∀k∈c.kids,k.holds w
theorem aCx{fuel:Nat}{cs:List Value}{x:DataW H×List MemPlace}(h:DataW.trod ench prog w base spare held fuel 176 cs=some x)(hl:cs.length=4):∃e:Pt,cs=Sy e∧aLv w e:=by
 match cs,hl with
 | [c0,c1,c2,c3],_=>
   obtain⟨_,_,g0⟩:=Kh underlying176 h 0 _ rfl (by kernel_rfl) (c:=c0) rfl;obtain⟨_,_,g1⟩:=Kh underlying176 h 1 _ rfl (by kernel_rfl) (c:=c1) rfl;obtain⟨_,_,g2⟩:=Kh underlying176 h 2 _ rfl (by kernel_rfl) (c:=c2) rfl;obtain⟨_,_,g3⟩:=Kh underlying176 h 3 _ rfl (by kernel_rfl) (c:=c3) rfl;obtain⟨n0,e0,_,w0⟩:=DataW.trod_int underlying5 g0;obtain⟨n1,e1,_,w1⟩:=DataW.trod_int underlying5 g1;obtain⟨A,l,q,e2,k2,r2,o2⟩:=BM g2;obtain⟨A3,l3,q3,e3,k3,r3,o3⟩:=BM g3;have b0:=bounds_u8 w0;have b1:=bounds_u8 w1;simp only[aQa,and_true]at e0 e1 e2 e3;subst e0 e1 e2 e3;refine⟨⟨n0.toNat,n1.toNat,A,q,l,A3,q3,l3⟩,by show _=[Value.int .u8 ((n0.toNat:Nat):Int), .int .u8 ((n1.toNat:Nat):Int),_,_];rw[Int.toNat_of_nonneg b0.1,Int.toNat_of_nonneg b1.1],⟨by show n0.toNat<256;omega,by show n1.toNat<256;omega,k2,k3,fun x hx=>(o2 x hx).1,fun x hx=>(o3 x hx).1⟩,fun k hk=>?_⟩;rcases aNx.1 hk with rfl|hk
   ·exact r2
   rcases aNx.1 hk with rfl|hk
   ·exact r3
   obtain⟨x,hx,hk⟩:=aOs.1 hk;rw[aNz.1 hk];rcases aPi.1 hx with hx|hx
   ·exact(o2 x hx).2
   ·exact(o3 x hx).2
set_option maxRecDepth 100000 in
theorem PX{r:Reach}{b0:Nat}{v:Value}{d:DataW H}{ps:List MemPlace}(hval:Value.okWide prog w r b0 25 v)(hd:DataW.Trod ench prog w base spare held 25 v d ps):
    ∃p:Pl,v= .agg (cL p []).toArray∧p.Ok∧(all p.kids).holds w:=by
 simp only[Value.okWide,underlying25]at hval;obtain⟨cs,rfl,hsz,_⟩:=hval;obtain⟨fuel,hf⟩:=hd;have hl:cs.toList.length=3:=by rw[Array.length_toList,hsz];kernel_rfl
 have hf2:DataW.trod ench prog w base spare held fuel 25 cs.toList=some (d,ps):=hf;obtain⟨l⟩:=cs
 match l,hl with
 | [c0,c1,c2],_=>
   obtain⟨_,_,g0⟩:=Kh underlying25 hf2 0 _ rfl (by kernel_rfl) (c:=c0) rfl;obtain⟨_,_,g1⟩:=Kh underlying25 hf2 1 _ rfl (by kernel_rfl) (c:=c1) rfl;obtain⟨_,_,g2⟩:=Kh underlying25 hf2 2 _ rfl (by kernel_rfl) (c:=c2) rfl;obtain⟨n0,e0,_,w0⟩:=DataW.trod_int underlying5 g0;obtain⟨A,l,q,e1,k1,r1⟩:=sH g1;obtain⟨A2,l2,q2,e2,r2,o2,k2,_⟩:=open_list (enc:=Sy) (size:=4) (fun _=>rfl) (by decide) (aLv w) underlying23 (by kernel_rfl) (fun n cs' x' h' hl=>aCx h' hl) g2;have b0:=bounds_u8 w0;simp only[aQa,and_true]at e0 e1 e2;subst e0 e1 e2;refine⟨⟨n0.toNat,A,q,l,A2,q2,l2⟩,by show _=Value.agg ⟨Value.int .u8 ((n0.toNat:Nat):Int)::_⟩;rw[Int.toNat_of_nonneg b0.1],⟨by show n0.toNat<256;omega,k1,k2,fun x hx=>(o2 x hx).1⟩,Gh (Pl.lax _).owns fun k hk=>?_⟩;rcases aNx.1 hk with rfl|hk
   ·exact r1
   rcases aNx.1 hk with rfl|hk
   ·exact r2
   obtain⟨x,hx,hk⟩:=aOs.1 hk;exact(o2 x hx).2 k hk
end
theorem aCy{P:Program}{W:World}{name:String}{g:Nat}{cs:Array Value}(hg:P.globalNamed name=some g)(hv:W.var? P name=some cs):(varc g cs).holds W:=by
 unfold World.var? at hv;rw[hg]at hv;have hv2:(match W.heap[g]? with|some (.cells cs _ _)=>some cs|_=>none)=some cs:=hv;split at hv2
 · rename_i cs' t f heq
   cases hv2;exact⟨t,f,heq⟩
 ·cases hv2
set_option maxRecDepth 100000 in
theorem PY{W:World}(h:laidMetH prog aEi W):ax.holds W:=by
 rw[MakeChecks.laidMetH_plain _ _ _ (by kernel_rfl)]at h;obtain⟨ps,hL,_⟩:=h;obtain⟨_,_,_,_,_,_,_,_,_,_,hL,_⟩:=hL;obtain⟨_,_,_,_,_,_,_,_,_,_,hL,_⟩:=hL;obtain⟨g0,t0,cs0,f0,p0,q0,hg0,ht0,hv0,hd0,_,_⟩:=hL;obtain rfl:=aOj ((show prog.globalNamed "internal/strconv.uint64pow10" =some 1 by kernel_rfl).symm.trans hg0);obtain rfl:=aOj ((show(prog.globals[1]?).map (·.type)=some 323 by kernel_rfl).symm.trans ht0);rw[show(Rows.laid_internal_strconv_uint64pow10:DataW Unit)=Lib.tabData .u64 Lib.pow10Tab by kernel_rfl]at hd0;have hc:=Lib.cells_of_tab underlying323 underlying268 (by kernel_rfl) (by kernel_rfl) hd0;have hcs:cs0=(Lib.pow10Tab.map fun z=>Value.int .u64 z).toArray:=by rw[←hc,Array.toArray_toList]
 have hv:=aCy hg0 hv0;rw[hcs]at hv;exact hv
end Go.Proofs.YtihgdnjkofpgiaaGreatDoor

/- Own text. -/
import Derived.Test.YtlihklladkagpaaGreatDoorXd
import Derived.Test.YtlihklladkagpaaGreatDoorC12
set_option linter.unusedVariables false
set_option linter.unusedSimpArgs false
namespace Go.Proofs.YtlihklladkagpaaGreatDoor
open Go.Proofs.Tryz
open Go.ChangeShapes Go.WideShapes Go.ChangeAt Go.RowKit Go.Flow Go.Mem Go.Sep
section
variable{H:Type}{ench:TypeId×Value→H}{w:World}{base:Nat}{spare:Nat→Bool}{held:Bool}
theorem nS{fuel:Nat}{cs:List Value}{x:DataW H×List MemPlace}(h:DataW.trod ench prog w base spare held fuel 28 cs=some x):
    ∃(A:OA) (l:List Int) (cap:Nat),cs=[vs A l cap]∧l.length≤cap∧(ros aLz A l).holds w:=by
 obtain⟨A,l,cap,h1,h2,_,h4,_⟩:=open_list (enc:=aLz) (size:=1) (fun _=>rfl) (by decide) (fun _=>True) underlying28 (by kernel_rfl) (fun n cs' x' h' hl=>by
  obtain⟨z,hz,_,_⟩:=DataW.trod_int underlying2 h'
  exact⟨z,hz,trivial⟩) h
 exact⟨A,l,cap,h1,h4,h2⟩
theorem PM{fuel:Nat}{cs:List Value}{x:DataW H×List MemPlace}(h:DataW.trod ench prog w base spare held fuel 22 cs=some x):
    ∃(A:OA) (l:List Nat) (cap:Nat),cs=[vs A l cap]∧l.length≤cap∧(ros Gw A l).holds w:=by
 obtain⟨A,l,cap,h1,h2,_,h4,_⟩:=open_list (enc:=Gw) (size:=1) (fun _=>rfl) (by decide) (fun _=>True) underlying22 (by kernel_rfl) (fun n cs' x' h' hl=>by
  obtain⟨z,hz,_,hw⟩:=DataW.trod_int underlying5 h'
  have hb:=bounds_u8 hw
  exact⟨z.toNat,by rw[hz,Gw,Int.toNat_of_nonneg hb.1],trivial⟩) h
 exact⟨A,l,cap,h1,h4,h2⟩
set_option maxRecDepth 100000 in
theorem lC{fuel:Nat}{cs:List Value}{x:DataW H×List MemPlace}(h:DataW.trod ench prog w base spare held fuel 29 cs=some x):
    ∃(A:OA) (l:List (Int×Int)) (cap:Nat),cs=[vs A l cap]∧l.length≤cap∧(ros Be A l).holds w:=by
 obtain⟨A,l,cap,h1,h2,_,h4,_⟩:=open_list (enc:=Be) (size:=2) (fun _=>rfl) (by decide) (fun _=>True) underlying29 (by kernel_rfl) (fun n cs' x' h' hl=>by
  obtain⟨xs,m,_,_,_,hxl,hx⟩:=DataW.trod_array underlying92 h'
  have c1:prog.cellsOf 2=1:=by kernel_rfl
  rw[c1]at hx
  match cs',hl with
  | [c0,d0],_=>
    have g0:=hx 0 (by decide)
    have g1:=hx 1 (by decide)
    rw[gge (by rw[hxl];decide)]at g0 g1
    obtain⟨z0,e0,_,_⟩:=DataW.trod_int underlying2 (show DataW.trod ench prog w base spare held m 2 [c0]=some xs[0]from g0)
    obtain⟨z1,e1,_,_⟩:=DataW.trod_int underlying2 (show DataW.trod ench prog w base spare held m 2 [d0]=some xs[1]from g1)
    simp only[List.cons.injEq,and_true]at e0 e1
    subst e0 e1
    exact⟨(z0,z1),rfl,trivial⟩) h
 exact⟨A,l,cap,h1,h4,h2⟩
set_option maxRecDepth 100000 in
theorem yV{r:Reach}{b0:Nat}{v:Value}{d:DataW H}{ps:List MemPlace}(hval:Value.okWide prog w r b0 31 v)(hd:DataW.Trod ench prog w base spare held 31 v d ps):
    ∃x:Wx,v= .agg x.cells.toArray∧x.ok∧x.flags<256∧(ros aLz x.Av x.vars).holds w∧(ros Be x.At x.tabs).holds w∧(ros Be x.Ad x.disk).holds w∧(ros aLz x.Aa x.args).holds w∧(ros Gw x.Af x.fail).holds w:=by
 simp only[Value.okWide,underlying31]at hval
 obtain⟨cs,rfl,hsz,_⟩:=hval
 obtain⟨fuel,hf⟩:=hd
 have hl:cs.toList.length=8:=by rw[Array.length_toList,hsz];kernel_rfl
 have hf2:DataW.trod ench prog w base spare held fuel 31 cs.toList=some (d,ps):=hf
 obtain⟨l⟩:=cs
 match l,hl with
 | [c0,c1,c2,c3,c4,c5,c6,c7],_=>
   obtain⟨_,_,g0⟩:=Eh underlying31 hf2 0 _ rfl (by kernel_rfl) (c:=c0) rfl
   obtain⟨_,_,g1⟩:=Eh underlying31 hf2 1 _ rfl (by kernel_rfl) (c:=c1) rfl
   obtain⟨_,_,g2⟩:=Eh underlying31 hf2 2 _ rfl (by kernel_rfl) (c:=c2) rfl
   obtain⟨_,_,g3⟩:=Eh underlying31 hf2 3 _ rfl (by kernel_rfl) (c:=c3) rfl
   obtain⟨_,_,g4⟩:=Eh underlying31 hf2 4 _ rfl (by kernel_rfl) (c:=c4) rfl
   obtain⟨_,_,g5⟩:=Eh underlying31 hf2 5 _ rfl (by kernel_rfl) (c:=c5) rfl
   obtain⟨_,_,g6⟩:=Eh underlying31 hf2 6 _ rfl (by kernel_rfl) (c:=c6) rfl
   obtain⟨_,_,g7⟩:=Eh underlying31 hf2 7 _ rfl (by kernel_rfl) (c:=c7) rfl
   obtain⟨A0,l0,q0,e0,_,r0⟩:=nS g0
   obtain⟨A1,l1,q1,e1,k1,r1⟩:=lC g1
   obtain⟨A2,l2,q2,e2,k2,r2⟩:=lC g2
   obtain⟨A3,l3,q3,e3,_,r3⟩:=nS g3
   obtain⟨n4,e4,_,_⟩:=DataW.trod_int underlying2 g4
   obtain⟨n5,e5,_,w5⟩:=DataW.trod_int underlying5 g5
   obtain⟨n6,e6,_,w6⟩:=DataW.trod_int underlying5 g6
   obtain⟨A7,l7,q7,e7,_,r7⟩:=PM g7
   have b5:=bounds_u8 w5
   have b6:=bounds_u8 w6
   obtain⟨m5,rfl⟩:∃m:Nat,n5=((m:Nat):Int):=⟨n5.toNat,by omega⟩
   obtain⟨m6,rfl⟩:∃m:Nat,n6=((m:Nat):Int):=⟨n6.toNat,by omega⟩
   simp only[List.cons.injEq,and_true]at e0 e1 e2 e3 e4 e5 e6 e7
   subst e0 e1 e2 e3 e4 e5 e6 e7
   exact⟨⟨A0,q0,l0,A1,q1,l1,A2,q2,l2,A3,q3,l3,n4,m5,m6,A7,q7,l7⟩,rfl,⟨k1,k2,by show m6<256;omega⟩,by show m5<256;omega,r0,r1,r2,r3,r7⟩
end
section
variable{H:Type}{ench:TypeId×Value→H}{w:World}{base:Nat}{spare:Nat→Bool}{held:Bool}
theorem nU{fuel:Nat}{cs:List Value}{x:DataW H×List MemPlace}(h:DataW.trod ench prog w base spare held fuel 22 cs=some x):
    ∃(A:OA) (l:List Nat) (cap:Nat),cs=[vs A l cap]∧okB l cap∧(ros Gw A l).holds w:=by
 obtain⟨A,l,cap,h1,h2,h3,h4,_⟩:=open_list (enc:=Gw) (size:=1) (fun _=>rfl) (by decide) (fun x:Nat=>x<256) underlying22 (by kernel_rfl) (fun n cs' x' h' hl=>by
  obtain⟨z,hz,_,hw⟩:=DataW.trod_int underlying5 h'
  have hb:=bounds_u8 hw
  exact⟨z.toNat,by rw[hz,Gw,Int.toNat_of_nonneg hb.1],by omega⟩) h
 exact⟨A,l,cap,h1,⟨h3,h4⟩,h2⟩
abbrev YV(w:World)(c:Cd):Prop:=c.Ok∧(ros Gw c.B c.bl).holds w
theorem UK{fuel:Nat}{cs:List Value}{x:DataW H×List MemPlace}(h:DataW.trod ench prog w base spare held fuel 160 cs=some x)(hl:cs.length=2):∃e:Cd,cs=Mm e∧YV w e:=by
 match cs,hl with
 | [c0,c1],_=>
   obtain⟨_,_,g0⟩:=Eh underlying160 h 0 _ rfl (by kernel_rfl) (c:=c0) rfl
   obtain⟨_,_,g1⟩:=Eh underlying160 h 1 _ rfl (by kernel_rfl) (c:=c1) rfl
   obtain⟨n0,e0,_,w0⟩:=DataW.trod_int underlying5 g0
   obtain⟨A,l,q,e1,k1,r1⟩:=nU g1
   have b0:=bounds_u8 w0
   simp only[List.cons.injEq,and_true]at e0 e1
   subst e0 e1
   exact⟨⟨n0.toNat,A,q,l⟩,by show _=[Value.int .u8 ((n0.toNat:Nat):Int),_];rw[Int.toNat_of_nonneg b0.1],⟨by show n0.toNat<256;omega,k1⟩,r1⟩
theorem vT{fuel:Nat}{cs:List Value}{x:DataW H×List MemPlace}(h:DataW.trod ench prog w base spare held fuel 147 cs=some x):
    ∃(A:OA) (l:List Cd) (cap:Nat),cs=[vs A l cap]∧l.length≤cap∧(ros Mm A l).holds w∧∀e∈l,YV w e:=by
 obtain⟨A,l,cap,h1,h2,h3,h4,_⟩:=open_list (enc:=Mm) (size:=2) (fun _=>rfl) (by decide) (YV w) underlying147 (by kernel_rfl) (fun n cs' x' h' hl=>UK h' hl) h
 exact⟨A,l,cap,h1,h4,h2,h3⟩
abbrev aCp(w:World)(c:Pt):Prop:=c.Ok∧∀k∈c.kids,k.holds w
theorem UL{fuel:Nat}{cs:List Value}{x:DataW H×List MemPlace}(h:DataW.trod ench prog w base spare held fuel 149 cs=some x)(hl:cs.length=4):∃e:Pt,cs=Sy e∧aCp w e:=by
 match cs,hl with
 | [c0,c1,c2,c3],_=>
   obtain⟨_,_,g0⟩:=Eh underlying149 h 0 _ rfl (by kernel_rfl) (c:=c0) rfl
   obtain⟨_,_,g1⟩:=Eh underlying149 h 1 _ rfl (by kernel_rfl) (c:=c1) rfl
   obtain⟨_,_,g2⟩:=Eh underlying149 h 2 _ rfl (by kernel_rfl) (c:=c2) rfl
   obtain⟨_,_,g3⟩:=Eh underlying149 h 3 _ rfl (by kernel_rfl) (c:=c3) rfl
   obtain⟨n0,e0,_,w0⟩:=DataW.trod_int underlying5 g0
   obtain⟨n1,e1,_,w1⟩:=DataW.trod_int underlying5 g1
   obtain⟨A,l,q,e2,k2,r2,o2⟩:=vT g2
   obtain⟨A3,l3,q3,e3,k3,r3,o3⟩:=vT g3
   have b0:=bounds_u8 w0
   have b1:=bounds_u8 w1
   simp only[List.cons.injEq,and_true]at e0 e1 e2 e3
   subst e0 e1 e2 e3
   refine⟨⟨n0.toNat,n1.toNat,A,q,l,A3,q3,l3⟩,by show _=[Value.int .u8 ((n0.toNat:Nat):Int), .int .u8 ((n1.toNat:Nat):Int),_,_];rw[Int.toNat_of_nonneg b0.1,Int.toNat_of_nonneg b1.1],⟨by show n0.toNat<256;omega,by show n1.toNat<256;omega,k2,k3,fun x hx=>(o2 x hx).1,fun x hx=>(o3 x hx).1⟩,fun k hk=>?_⟩
   rcases aEi.1 hk with rfl|hk
   ·exact r2
   rcases aEi.1 hk with rfl|hk
   ·exact r3
   obtain⟨x,hx,hk⟩:=aEy.1 hk
   rw[aEr.1 hk]
   rcases aFi.1 hx with hx|hx
   ·exact(o2 x hx).2
   ·exact(o3 x hx).2
set_option maxRecDepth 100000 in
theorem IL{r:Reach}{b0:Nat}{v:Value}{d:DataW H}{ps:List MemPlace}(hval:Value.okWide prog w r b0 25 v)(hd:DataW.Trod ench prog w base spare held 25 v d ps):
    ∃p:Pl,v= .agg (cL p []).toArray∧p.Ok∧(all p.kids).holds w:=by
 simp only[Value.okWide,underlying25]at hval
 obtain⟨cs,rfl,hsz,_⟩:=hval
 obtain⟨fuel,hf⟩:=hd
 have hl:cs.toList.length=3:=by rw[Array.length_toList,hsz];kernel_rfl
 have hf2:DataW.trod ench prog w base spare held fuel 25 cs.toList=some (d,ps):=hf
 obtain⟨l⟩:=cs
 match l,hl with
 | [c0,c1,c2],_=>
   obtain⟨_,_,g0⟩:=Eh underlying25 hf2 0 _ rfl (by kernel_rfl) (c:=c0) rfl
   obtain⟨_,_,g1⟩:=Eh underlying25 hf2 1 _ rfl (by kernel_rfl) (c:=c1) rfl
   obtain⟨_,_,g2⟩:=Eh underlying25 hf2 2 _ rfl (by kernel_rfl) (c:=c2) rfl
   obtain⟨n0,e0,_,w0⟩:=DataW.trod_int underlying5 g0
   obtain⟨A,l,q,e1,k1,r1⟩:=nU g1
   obtain⟨A2,l2,q2,e2,r2,o2,k2,_⟩:=open_list (enc:=Sy) (size:=4) (fun _=>rfl) (by decide) (aCp w) underlying23 (by kernel_rfl) (fun n cs' x' h' hl=>UL h' hl) g2
   have b0:=bounds_u8 w0
   simp only[List.cons.injEq,and_true]at e0 e1 e2
   subst e0 e1 e2
   refine⟨⟨n0.toNat,A,q,l,A2,q2,l2⟩,by show _=Value.agg ⟨Value.int .u8 ((n0.toNat:Nat):Int)::_⟩;rw[Int.toNat_of_nonneg b0.1],⟨by show n0.toNat<256;omega,k1,k2,fun x hx=>(o2 x hx).1⟩,Ig (Pl.lax _).owns fun k hk=>?_⟩
   rcases aEi.1 hk with rfl|hk
   ·exact r1
   rcases aEi.1 hk with rfl|hk
   ·exact r2
   obtain⟨x,hx,hk⟩:=aEy.1 hk
   exact(o2 x hx).2 k hk
end
end Go.Proofs.YtlihklladkagpaaGreatDoor

/- Own text. -/
import Derived.Test.YtlihklladkagpaaGreatDoorQc
set_option maxHeartbeats 8000000
set_option maxRecDepth 100000
set_option linter.unusedVariables false
set_option linter.unusedSimpArgs false
namespace Go.Proofs.YtlihklladkagpaaGreatDoor
open Go.Proofs.Tryz
open Go.RowKit Go.Flow Go.Mem Go.Sep Go.In
def qL(l:List PE):Prop:=Pn l∧∀e∈l,e.dep≤8
mutual
def PS.sdep:PS→Nat
 |⟨_,_,_,_,t,e⟩=>max (Dr t) (Dr e)+1
def Dr:List PS→Nat
 |[]=>0
 |s::r=>max (PS.sdep s) (Dr r)
end
theorem aM:∀(l:List PS) (x:PS),Dr (l++[x])=max (Dr l) x.sdep
 |[],x=>by show max x.sdep 0=max 0 x.sdep;omega
 |e::r,x=>by show max e.sdep (Dr (r++[x]))=max (max e.sdep (Dr r)) x.sdep;rw[aM r x];omega
theorem dV:∀{l:List PS} {x:PS},x∈l→x.sdep≤Dr l
 | e::r,x,h=>by
   show x.sdep≤max e.sdep (Dr r)
   rcases aEi.1 h with rfl|h
   ·omega
   ·have:=dV h;omega
theorem Mo{n:Nat}:∀{l:List PS},(∀s∈l,s.sdep≤n)→Dr l≤n
 |[],_=>aEw _
 | e::r,h=>by
   show max e.sdep (Dr r)≤n
   have h1:=h e (aEd ..)
   have h2:=Mo (l:=r) fun s hs=>h s (aEb _ hs)
   omega
mutual
def PS.fine:PS→Prop
 |⟨k,s,h,es,t,e⟩=>((1≤k∧k≤10)∧((frm k).2.2.1≤es.length∧es.length≤(frm k).2.2.2.1)∧qL es)∧(((frm k).1=true→Qt s)∧((frm k).1=false→s=nE))∧(((frm k).2.1=true→Qt h)∧((frm k).2.1=false→h=nE))∧(((frm k).2.2.2.2.1=false→t=[])∧((frm k).2.2.2.2.2=false→e=[]))∧Gy t∧Gy e
def Gy:List PS→Prop
 |[]=>True
 |s::r=>PS.fine s∧Gy r
end
theorem aN:∀{l:List PS},Gy l→∀x∈l,x.fine
 |[],_,x,h=>by cases h
 | e::r,h,x,hx=>by
   rcases aEi.1 hx with rfl|hx
   ·exact h.1
   ·exact aN h.2 x hx
theorem Mq:∀{l:List PS},(∀x∈l,x.fine)→Gy l
 |[],_=>trivial
 |e::r,h=>⟨h e (aEd ..),Mq fun x hx=>h x (aEb _ hx)⟩
structure St.Fine(s:St):Prop where
 k1:1≤s.kind
 k2:s.kind≤10
 least:(frm s.kind).2.2.1≤s.exprs.length
 most:s.exprs.length≤(frm s.kind).2.2.2.1
 exprs:Pn (Cv s.exprs)
 deps:∀x∈s.exprs,x.pure.dep≤8
 nm1:(frm s.kind).1=true→Qt s.name
 nm2:(frm s.kind).1=false→s.name=nE
 hd1:(frm s.kind).2.1=true→Qt s.hand
 hd2:(frm s.kind).2.1=false→s.hand=nE
 thn:(frm s.kind).2.2.2.2.1=false→s.thn=[]
 els:(frm s.kind).2.2.2.2.2=false→s.els=[]
theorem mZ{l:List St}(h:Ba l=[]):l=[]:=by
 cases l with
 |nil=>rfl
 |cons a r=>cases h
theorem Yr{s:St}(h:s.pure.fine):s.Fine∧Gy (Ba s.thn)∧Gy (Ba s.els):=by
 rw[Nh]at h
 obtain⟨⟨⟨h1,h2⟩,⟨h3,h4⟩,h5,h6⟩,⟨h7,h8⟩,⟨h9,h10⟩,⟨h11,h12⟩,h13,h14⟩:=h
 rw[Bz,aEg]at h3 h4
 exact⟨⟨h1,h2,h3,h4,h5,fun x hx=>h6 x.pure (by rw[Bz];exact aEv.2 ⟨x,hx,rfl⟩),h7,h8,h9,h10,fun h=>mZ (h11 h),fun h=>mZ (h12 h)⟩,h13,h14⟩
theorem Wj{l:List St}(h:Gy (Ba l)){x:St}(hx:x∈l):x.pure.fine:=aN h x.pure (by rw[Je];exact aEv.2 ⟨x,hx,rfl⟩)
section
variable{c:Ct}{np:Nat}
theorem ok1{e:PE}(h:e.fine∧e.dep≤8):qL [e]:=⟨⟨h.1,trivial⟩,fun x hx=>by rw[aEr.1 hx];exact h.2⟩
theorem ok2{a b:PE}(h:a.fine∧a.dep≤8)(h2:b.fine∧b.dep≤8):qL [a,b]:=⟨⟨h.1,h2.1,trivial⟩,fun x hx=>by
 rcases aEi.1 hx with rfl|hx
 ·exact h.2
 ·rw[aEr.1 hx];exact h2.2⟩
theorem okl{l:List PE}(h:∀e∈l,e.fine∧e.dep≤8):qL l:=⟨dR fun x hx=>(h x hx).1,fun x hx=>(h x hx).2⟩
theorem StE.fine(ok:c.Ok)(hnp:np≤2){d:Nat}{s:PS}(h:StE c np d s):s.fine∧s.sdep≤d+1:=by
 have hi:=ok.ints
 have I {d:Nat} {e:PE} (h:Kh c np d e) (hd:d≤3):e.fine∧e.dep≤8:=⟨(h.fine ok hnp).1,by have:=(h.fine ok hnp).2;omega⟩
 have B {d:Nat} {e:PE} (h:Pj c np d e) (hd:d≤3):e.fine∧e.dep≤8:=⟨(h.fine ok hnp).1,by have:=(h.fine ok hnp).2;omega⟩
 have par {to h n:Nat} {ar:List Nat} (ha:c.ars[to]?=some ar) (hh:ar[h]?=some n):n≤2∧h<3∧to<3:=by
  have h1:=ok.each ar (mog ha)
  have h2:=(aEc.1 hh).1
  have h3:=(aEc.1 ha).1
  have h4:=ok.some
  exact⟨h1.2.2 n (mog hh),by omega,by omega⟩
 have nn (p:Prop):(false=true→p):=fun h=>by cases h
 have nt (p:Prop):(true=false→p):=fun h=>by cases h
 induction h with
 |setB d e h=>exact⟨⟨⟨by decide,⟨aEu _,aEu _⟩,ok1 (B h om)⟩,⟨fun _=>qB,nt _⟩,⟨nn _,fun _=>rfl⟩,⟨fun _=>rfl,fun _=>rfl⟩,trivial,trivial⟩,show 1≤d+1 by omega⟩
 |setX d k e hk h=>exact⟨⟨⟨by decide,⟨aEu _,aEu _⟩,ok1 (I h om)⟩,⟨fun _=>pY om,nt _⟩,⟨nn _,fun _=>rfl⟩,⟨fun _=>rfl,fun _=>rfl⟩,trivial,trivial⟩,show 1≤d+1 by omega⟩
 |put d a b ht ha hb=>exact⟨⟨⟨by decide,⟨aEu _,aEu _⟩,ok2 (I ha om) (I hb om)⟩,⟨fun _=>Wy,nt _⟩,⟨nn _,fun _=>rfl⟩,⟨fun _=>rfl,fun _=>rfl⟩,trivial,trivial⟩,show 1≤d+1 by omega⟩
 |del d a ht ha=>exact⟨⟨⟨by decide,⟨aEu _,aEu _⟩,ok1 (I ha om)⟩,⟨fun _=>Wy,nt _⟩,⟨nn _,fun _=>rfl⟩,⟨fun _=>rfl,fun _=>rfl⟩,trivial,trivial⟩,show 1≤d+1 by omega⟩
 | ife d e t l h ht hl iht ihl=>
   refine⟨⟨⟨by decide,⟨aEu _,aEu _⟩,ok1 (B h om)⟩,⟨nn _,fun _=>rfl⟩,⟨nn _,fun _=>rfl⟩,⟨nt _,nt _⟩,Mq fun x hx=>(iht x hx).1,Mq fun x hx=>(ihl x hx).1⟩,?_⟩
   have h1:=Mo fun x hx=>(iht x hx).2
   have h2:=Mo fun x hx=>(ihl x hx).2
   show max (Dr t) (Dr l)+1≤_
   omega
 | whl d e t h ht iht=>
   refine⟨⟨⟨by decide,⟨aEu _,aEu _⟩,ok1 (B h om)⟩,⟨nn _,fun _=>rfl⟩,⟨nn _,fun _=>rfl⟩,⟨nt _,fun _=>rfl⟩,Mq fun x hx=>(iht x hx).1,trivial⟩,?_⟩
   have h1:=Mo fun x hx=>(iht x hx).2
   show max (Dr t) 0+1≤_
   omega
 | send d to h ar l ha hh hl=>
   obtain⟨p1,p2,p3⟩:=par ha hh
   exact⟨⟨⟨by decide,⟨aEw _,by show l.length≤4;omega⟩,okl fun x hx=>I (hl x hx) om⟩,⟨fun _=>qA p3,nt _⟩,⟨fun _=>xL p2,nt _⟩,⟨fun _=>rfl,fun _=>rfl⟩,trivial,trivial⟩,show 1≤d+1 by omega⟩
 | after d h ar e l ha hh he hl=>
   obtain⟨p1,p2,p3⟩:=par ha hh
   refine⟨⟨⟨by decide,⟨by show 1≤l.length+1;omega,by show l.length+1≤5;omega⟩,okl fun x hx=>?_⟩,⟨nn _,fun _=>rfl⟩,⟨fun _=>xL p2,nt _⟩,⟨fun _=>rfl,fun _=>rfl⟩,trivial,trivial⟩,show 1≤d+1 by omega⟩
   rcases aEi.1 hx with rfl|hx
   ·exact I he om
   ·exact I (hl x hx) om
 | store d a b l ha hb hl ihl=>
   refine⟨⟨⟨by decide,⟨aEu _,aEu _⟩,ok2 (I ha om) (I hb om)⟩,⟨nn _,fun _=>rfl⟩,⟨nn _,fun _=>rfl⟩,⟨fun _=>rfl,nt _⟩,trivial,Mq fun x hx=>(ihl x hx).1⟩,?_⟩
   have h1:=Mo fun x hx=>(ihl x hx).2
   show max 0 (Dr l)+1≤_
   omega
 | fetch d k e l hk h hl ihl=>
   refine⟨⟨⟨by decide,⟨aEu _,aEu _⟩,ok1 (I h om)⟩,⟨fun _=>pY om,nt _⟩,⟨nn _,fun _=>rfl⟩,⟨fun _=>rfl,nt _⟩,trivial,Mq fun x hx=>(ihl x hx).1⟩,?_⟩
   have h1:=Mo fun x hx=>(ihl x hx).2
   show max 0 (Dr l)+1≤_
   omega
 |stop d=>exact⟨⟨⟨by decide,⟨aEu _,aEu _⟩,trivial,fun x hx=>by cases hx⟩,⟨nn _,fun _=>rfl⟩,⟨nn _,fun _=>rfl⟩,⟨fun _=>rfl,fun _=>rfl⟩,trivial,trivial⟩,show 1≤d+1 by omega⟩
end
theorem FK(l:List St)(ih:∀x∈l,(∀(A:OA) (q:Nat),x.thn.length≤12→Dy (Ba x.thn)→Ca (Ba x.thn)≤100→Dz 169 [vs A x.thn q] [all (lsG Bw Dh A x.thn)] (fun v Γ'=>v=nv (Ca (Ba x.thn))∧Γ'=[]))∧(∀(A:OA) (q:Nat),x.els.length≤12→Dy (Ba x.els)→Ca (Ba x.els)≤100→Dz 169 [vs A x.els q] [all (lsG Bw Dh A x.els)] (fun v Γ'=>v=nv (Ca (Ba x.els))∧Γ'=[])))(A:OA)(q:Nat)(hl:l.length≤12)(hlow:Dy (Ba l))(hb:Ca (Ba l)≤100):
    Dz 169 [vs A l q] [all (lsG Bw Dh A l)] (fun v Γ'=>v=nv (Ca (Ba l))∧Γ'=[]):=by
 refine Am func169 ntmps169 fun w0=>?_
 refine Jz 14 ?_
 refine To.one 0 rfl (ros Dh A l) rfl (aEd ..) (Jz 7 ?_)
 refine Lf (fun s g mz ρ Γ=>∃(m:Nat) (k:Nat),ρ=[s 0,(3,nv m),s 8,(9,nv k)]∧Γ=[g 0,g 1]∧mz=l.length-k∧(k≤l.length)∧(m+k=l.length+Ca (Ba (l.take k)))) ⟨⟨l.length,0,rfl,rfl,rfl,om,rfl⟩,sb⟩ ?_
 rintro mz _ _ ⟨m,k,rfl,rfl,rfl,hk,hm⟩
 have hmb:Ca (Ba (l.take k))≤100:=by
  have h1:Ba l=Ba (l.take k)++Ba (l.drop k):=by rw[Je,Je,Je,←aEq,aFs]
  rw[h1,Qs]at hb
  omega
 refine Jz 6 ?_
 refine Jcp rfl ?_ ?_<;>intro c10
 obtain⟨x,hx⟩:=exg l k om
 obtain⟨hxk,⟨hxe,hxl⟩,⟨hxt,hxtl⟩,hxn,hxnl⟩:=Qg (Oc hlow (mog hx))
 have hxm:x.pure∈Ba l:=by rw[Je];exact aEv.2 ⟨x,mog hx,rfl⟩
 have htk:Ba (l.take (k+1))=Ba (l.take k)++[x.pure]:=by rw[Cf hx,Je,aEq,←Je];rfl
 have hxc:PS.cnt x.pure=1+Ca (Ba x.thn)+Ca (Ba x.els):=by rw[Nh x];rfl
 have hxc2:=fH hxm
 have hxa:Ca (Ba x.thn)≤100:=om
 have hxb:Ca (Ba x.els)≤100:=om
 have hcx:Ca (Ba (l.take (k+1)))=Ca (Ba (l.take k))+PS.cnt x.pure:=by rw[htk,Qs];show _+(PS.cnt x.pure+0)=_;omega
 refine Jz 10 ?_
 refine Db 1 rfl (lsG Bw Dh x.Ae x.els) (Dx _ _ _ _) (fun c hc=>Kw hx c (Ji x c hc)) (Db 2 rfl (lsG Bw Dh x.At x.thn) (Dx _ _ _ _) (fun c hc=>Kw hx c (Kj x c hc)) (Pp [ros Dh A l] [⟨0,[],0⟩,⟨1,[],0⟩,⟨2,[],0⟩,⟨7,[],0⟩,⟨8,[],0⟩,⟨3,[],1⟩,⟨4,[],0⟩,⟨5,[],0⟩,⟨6,[],4⟩,⟨9,[],1⟩,⟨10,[],0⟩,⟨11,[],0⟩,⟨12,[6],4⟩,⟨13,[6,12],0⟩,⟨14,[6,12],0⟩,⟨15,[6,12],0⟩] mixed.h (by kernel_rfl) (ocs (oca 2 rfl) (ocn _)) (Jz 8 ?_)))
 refine Gj rfl rfl rfl rfl rfl .fc ((ih x (mog hx)).1 x.At x.qt hxt hxtl hxa) (by show owns (lsG Bw Dh x.At x.thn)++[]=[];rw[(Dx Bw Dh x.At x.thn).owns];rfl) (ocs (oca 0 rfl) (ocn _)) ?_
 rintro _ _ ⟨rfl,rfl⟩
 refine⟨rfl,?_⟩
 refine Jz 3 ?_
 refine Gj rfl rfl rfl rfl rfl .fc ((ih x (mog hx)).2 x.Ae x.qe hxn hxnl hxb) (by show owns (lsG Bw Dh x.Ae x.els)++[]=[];rw[(Dx Bw Dh x.Ae x.els).owns];rfl) (ocs (oca 1 rfl) (ocn _)) ?_
 rintro _ _ ⟨rfl,rfl⟩
 refine⟨rfl,?_⟩
 refine Fw.f rfl (Ns (a:=(Ca (Ba x.thn))) (b:=(Ca (Ba x.els))) rfl rfl rfl om) ?_
 refine Fw.f rfl (Ns (a:=m) (b:=((Ca (Ba x.thn))+(Ca (Ba x.els)))) rfl rfl rfl om) ?_
 refine Jz 9 ?_
 refine Cg ⟨⟨(m+(Ca (Ba x.thn)+Ca (Ba x.els))),k+1,rfl,rfl,rfl,om,(by rw[hcx,hxc];omega)⟩,sb⟩
 refine Jz 12 ?_
 refine Df (Du (Je1 results169 ?_))
 have h2:m=Ca (Ba l):=by rw[show k=l.length by omega,List.take_length]at hm;omega
 rw[h2];exact⟨rfl,rfl⟩
theorem qM:∀l:List St,∀(A:OA) (q:Nat),l.length≤12→Dy (Ba l)→Ca (Ba l)≤100→Dz 169 [vs A l q] [all (lsG Bw Dh A l)] (fun v Γ'=>v=nv (Ca (Ba l))∧Γ'=[])
 |l,A,q,h1,h2,h3=>FK l (fun x hx=>⟨qM x.thn,qM x.els⟩) A q h1 h2 h3
termination_by l=>SizeOf.sizeOf l
decreasing_by
 all_goals
  have h:=aFq hx
  have:SizeOf.sizeOf x.thn<SizeOf.sizeOf x∧SizeOf.sizeOf x.els<SizeOf.sizeOf x:=by cases x;simp only[St.mk.sizeOf_spec];omega
  omega
theorem xV(l:List St)(ih:∀x∈l,(∀(A:OA) (q:Nat),x.thn.length≤12→Dy (Ba x.thn)→Dr (Ba x.thn)≤100→Dz 170 [vs A x.thn q] [all (lsG Bw Dh A x.thn)] (fun v Γ'=>v=nv (Dr (Ba x.thn))∧Γ'=[]))∧(∀(A:OA) (q:Nat),x.els.length≤12→Dy (Ba x.els)→Dr (Ba x.els)≤100→Dz 170 [vs A x.els q] [all (lsG Bw Dh A x.els)] (fun v Γ'=>v=nv (Dr (Ba x.els))∧Γ'=[])))(A:OA)(q:Nat)(hl:l.length≤12)(hlow:Dy (Ba l))(hb:Dr (Ba l)≤100):
    Dz 170 [vs A l q] [all (lsG Bw Dh A l)] (fun v Γ'=>v=nv (Dr (Ba l))∧Γ'=[]):=by
 refine Am func170 ntmps170 fun w0=>?_
 refine Jz 13 ?_
 refine Jcp rfl ?_ ?_<;>intro c7
 refine Jz 7 ?_
 refine Du (Je1 results170 ?_)
 have h0:l=[]:=aFp om
 subst h0
 exact⟨rfl,rfl⟩
 refine Jz 9 ?_
 refine To.one 0 rfl (ros Dh A l) rfl (aEd ..) (Jz 7 ?_)
 refine Lf (fun s g mz ρ Γ=>∃(m:Nat) (k:Nat),ρ=[s 0,(3,nv m),s 9,(10,nv k)]∧Γ=[g 0,g 1]∧mz=l.length-k∧(k≤l.length)∧(Dr (Ba (l.take k))=if k=0 then 0 else m+1)∧(k=0→m=0)∧(m≤100)) ⟨⟨0,0,rfl,rfl,rfl,om,rfl,(fun _=>rfl),om⟩,sb⟩ ?_
 rintro mz _ _ ⟨m,k,rfl,rfl,rfl,hk,hm,hm0,hmb⟩
 refine Jz 6 ?_
 refine Jcp rfl ?_ ?_<;>intro c11
 obtain⟨x,hx⟩:=exg l k om
 obtain⟨hxk,⟨hxe,hxl⟩,⟨hxt,hxtl⟩,hxn,hxnl⟩:=Qg (Oc hlow (mog hx))
 have hxm:x.pure∈Ba l:=by rw[Je];exact aEv.2 ⟨x,mog hx,rfl⟩
 have htk:Ba (l.take (k+1))=Ba (l.take k)++[x.pure]:=by rw[Cf hx,Je,aEq,←Je];rfl
 have hxc:PS.sdep x.pure=max (Dr (Ba x.thn)) (Dr (Ba x.els))+1:=by rw[Nh x];rfl
 have hxc2:=dV hxm
 have hxa:Dr (Ba x.thn)≤100:=om
 have hxb:Dr (Ba x.els)≤100:=om
 have hcx:Dr (Ba (l.take (k+1)))=max (Dr (Ba (l.take k))) (PS.sdep x.pure):=by rw[htk,aM]
 refine Jz 10 ?_
 refine Db 1 rfl (lsG Bw Dh x.Ae x.els) (Dx _ _ _ _) (fun c hc=>Kw hx c (Ji x c hc)) (Db 2 rfl (lsG Bw Dh x.At x.thn) (Dx _ _ _ _) (fun c hc=>Kw hx c (Kj x c hc)) (Pp [ros Dh A l] [⟨0,[],0⟩,⟨1,[],0⟩,⟨2,[],0⟩,⟨7,[],0⟩,⟨8,[],0⟩,⟨3,[],1⟩,⟨4,[],0⟩,⟨5,[],0⟩,⟨6,[],4⟩,⟨9,[],1⟩,⟨10,[],0⟩,⟨11,[],0⟩,⟨12,[6],4⟩,⟨13,[6,12],0⟩,⟨14,[6,12],0⟩] mixed.h (by kernel_rfl) (ocs (oca 2 rfl) (ocn _)) (Jz 8 ?_)))
 refine Gj rfl rfl rfl rfl rfl .fc ((ih x (mog hx)).1 x.At x.qt hxt hxtl hxa) (by show owns (lsG Bw Dh x.At x.thn)++[]=[];rw[(Dx Bw Dh x.At x.thn).owns];rfl) (ocs (oca 0 rfl) (ocn _)) ?_
 rintro _ _ ⟨rfl,rfl⟩
 refine⟨rfl,?_⟩
 refine Jz 3 ?_
 refine Gj rfl rfl rfl rfl rfl .fc ((ih x (mog hx)).2 x.Ae x.qe hxn hxnl hxb) (by show owns (lsG Bw Dh x.Ae x.els)++[]=[];rw[(Dx Bw Dh x.Ae x.els).owns];rfl) (ocs (oca 1 rfl) (ocn _)) ?_
 rintro _ _ ⟨rfl,rfl⟩
 refine⟨rfl,?_⟩
 refine Fw.f rfl (Cr (v':=nv (max m (max (Dr (Ba x.thn)) (Dr (Ba x.els))))) (congrArg iv om) (zK rfl rfl rfl rfl)) ?_
 refine Jz 9 ?_
 refine Cg ⟨⟨(max m (max (Dr (Ba x.thn)) (Dr (Ba x.els)))),k+1,rfl,rfl,rfl,om,(by rw[aEa om,hcx,hm,hxc];split<;>omega),(fun h=>by omega),om⟩,sb⟩
 refine Jz 13 ?_
 refine Df (Du (Je1 results170 ?_))
 have h2:Dr (Ba l)=m+1:=by rw[show k=l.length by omega,List.take_length,aEa om]at hm;exact hm
 rw[h2];exact⟨rfl,rfl⟩
theorem jX:∀l:List St,∀(A:OA) (q:Nat),l.length≤12→Dy (Ba l)→Dr (Ba l)≤100→Dz 170 [vs A l q] [all (lsG Bw Dh A l)] (fun v Γ'=>v=nv (Dr (Ba l))∧Γ'=[])
 |l,A,q,h1,h2,h3=>xV l (fun x hx=>⟨jX x.thn,jX x.els⟩) A q h1 h2 h3
termination_by l=>SizeOf.sizeOf l
decreasing_by
 all_goals
  have h:=aFq hx
  have:SizeOf.sizeOf x.thn<SizeOf.sizeOf x∧SizeOf.sizeOf x.els<SizeOf.sizeOf x:=by cases x;simp only[St.mk.sizeOf_spec];omega
  omega
theorem xW(P:OA)(s:St)(hf:s.Fine)(hle:s.exprs.length≤4)(hlow:Kk (Cv s.exprs)):
    Dz 171 [.pointer (some ⟨blk P,ofs P+0*6,none⟩)] [ros Dh P [s],all (lsF Bw s.A s.exprs),glc] (fun v Γ'=>v= .bool true∧Γ'=[]):=by
 refine Am func171 ntmps171 fun w0=>?_
 refine Jz 7 ?_
 refine To.one 1 rfl (ros Bw s.A s.exprs) rfl (aEd ..) (Jz 4 ?_)
 refine Jr (Ck (i:=1) rfl rfl Xk rfl (gvt (rsg Jh (show([s]:List St)[0]?=some s from rfl)) rfl)) ?_
 refine Jz 5 ?_
 refine Cw (fun u g mz ρ Γ=>∃(k:Nat),ρ=[u 8,u 9,(10,nv k)]∧Γ=[g 0,g 2]∧mz=s.exprs.length-k∧(k≤s.exprs.length)) ⟨⟨0,rfl,rfl,rfl,om⟩,sb⟩ ?_
 rintro mz _ _ ⟨k,rfl,rfl,rfl,hk⟩
 refine Jz 6 ?_
 refine Jcp rfl ?_ ?_<;>intro c11
 obtain⟨x,hx⟩:=exg s.exprs k om
 have hxd:=hf.deps x (mog hx)
 refine Jz 8 ?_
 refine Jal fun b4=>?_
 refine Jz 4 ?_
 refine Db 2 rfl (x.kids Bw) (Ex.lax Bw x) (Yo hx) (Jz 2 ?_)
 refine Jqf (BL x (Ob hlow (mog hx)) (aGd hxd (by decide))) (by show owns (x.kids Bw)++[]=[];rw[(Ex.lax Bw x).owns];rfl) (ocs (oca 0 rfl) (ocn _)) ?_
 rintro _ _ ⟨rfl,rfl⟩
 refine⟨rfl,?_⟩
 refine Jr (Cr (v':= .bool false) (congrArg Value.bool (aEo om)) (Rd.gtr rfl rfl rfl)) ?_
 refine Jz 11 ?_
 refine Cg ⟨⟨k+1,rfl,rfl,rfl,om⟩,sb⟩
 refine Jz 11 ?_
 refine Df (Du (Je1 results171 ?_))
 exact⟨rfl,rfl⟩
theorem xX(P:OA)(s:St)(hf:s.Fine)(hle:s.exprs.length≤4)(hlow:Kk (Cv s.exprs)):
    Dz 136 [.pointer (some ⟨blk P,ofs P+0*6,none⟩)] [ros Dh P [s],all (lsF Bw s.A s.exprs),glc] (fun v Γ'=>v= .bool true∧Γ'=[]):=by
 refine Am func136 ntmps136 fun w0=>?_
 refine Jz 10 ?_
 refine Jr (Ck (i:=0) rfl rfl aAr rfl (gvt (f:=0) (rsg Jh (show([s]:List St)[0]?=some s from rfl)) rfl)) ?_
 refine Jvf (BJ hf.k1 hf.k2) rfl (Nj 2 rfl) ?_
 refine Jz 3 ?_
 refine Jal fun b3=>?_
 refine Jz 7 ?_
 refine Nk [0] 34 (false) ?_ ?_
 refine Jz 2 ?_
 refine JgB ?_ ?_<;>intro g15
 refine Jz 3 ?_
 refine Jr (Ck (i:=1) rfl rfl c9 rfl (gvt (rsg Jh (show([s]:List St)[0]?=some s from rfl)) rfl)) ?_
 refine Jvf (Jv (hf.nm1 (by simpa using g15))) rfl (Nj 3 rfl) ?_
 refine Jz 5 ?_
 refine JgB ?_ ?_<;>intro g26
 refine Jz 3 ?_
 refine Jr (Ck (i:=1) rfl rfl c9 rfl (gvt (rsg Jh (show([s]:List St)[0]?=some s from rfl)) rfl)) ?_
 refine Jvf (Jv (hf.hd1 (by simpa using g26))) rfl (Nj 3 rfl) ?_
 refine Jz 5 ?_
 refine Gg rfl rfl
 refine Jz 10 ?_
 refine Gg rfl rfl
 refine Jz 10 ?_
 refine JgB ?_ ?_<;>intro g26
 refine Jz 3 ?_
 refine Jr (Ck (i:=1) rfl rfl c9 rfl (gvt (rsg Jh (show([s]:List St)[0]?=some s from rfl)) rfl)) ?_
 refine Jvf (Jv (hf.hd1 (by simpa using g26))) rfl (Nj 3 rfl) ?_
 refine Jz 5 ?_
 refine Gg rfl rfl
 refine Jz 10 ?_
 refine Gg rfl rfl
 refine Jz 6 ?_
 refine Jqf (SC P s hle hlow hf.exprs) (by show[]++(owns (lsF Bw s.A s.exprs)++(owns gl++[]))=[];rw[(Ma Bw s.A s.exprs).owns];rfl) (ocs (oca 1 rfl) (ocs (oca 2 rfl) (ocs (oca 3 rfl) (ocn _)))) ?_
 rintro _ _ ⟨rfl,rfl⟩
 refine⟨rfl,?_⟩
 refine Jz 4 ?_
 refine Dl (Cu (Df (Du (Je1 results136 ?_))))
 exact⟨rfl,rfl⟩
theorem uF(P:OA)(s:St)(hf:s.Fine)(hle:s.exprs.length≤4)(hlow:Kk (Cv s.exprs)):
    Dz 139 [.pointer (some ⟨blk P,ofs P+0*6,none⟩)] [ros Dh P [s],all (lsF Bw s.A s.exprs),glc] (fun v Γ'=>v= .bool true∧Γ'=[]):=by
 refine Am func139 ntmps139 fun w0=>?_
 refine Jz 10 ?_
 refine Jr (Ck (i:=0) rfl rfl aAr rfl (gvt (f:=0) (rsg Jh (show([s]:List St)[0]?=some s from rfl)) rfl)) ?_
 refine Jvf (BJ hf.k1 hf.k2) rfl (Nj 2 rfl) ?_
 refine Jz 3 ?_
 refine Jal fun b3=>?_
 refine Jz 10 ?_
 refine Jr (Ck (i:=1) rfl rfl Xk rfl (gvt (rsg Jh (show([s]:List St)[0]?=some s from rfl)) rfl)) ?_
 refine Jz 19 ?_
 refine Jr (Cr (v':= .bool false) (congrArg Value.bool (aEo (by have:=hf.least;omega))) (Rd.lss rfl rfl rfl)) ?_
 refine Jz 8 ?_
 refine Jr (Cr (v':= .bool false) (congrArg Value.bool (aEo (by have:=hf.most;omega))) (Rd.gtr rfl rfl rfl)) ?_
 refine Jz 7 ?_
 refine Nk [0,3] 30 (false) ?_ ?_
 refine Jz 3 ?_
 refine JgB ?_ ?_<;>intro g34
 refine Jz 3 ?_
 refine Jr (Ck (i:=1) rfl rfl c9 rfl (gvt (rsg Jh (show([s]:List St)[0]?=some s from rfl)) rfl)) ?_
 refine Jr (Cr (v':= .bool false) (congrArg Value.bool (aEo (fun h=>h (hf.nm2 (by simpa using g34))))) (pW rfl rfl rfl)) ?_
 refine Jz 4 ?_
 refine Gg rfl rfl
 refine Jz 9 ?_
 refine Gg rfl rfl
 refine Jz 2 ?_
 refine Nk [0,3] 30 (false) ?_ ?_
 refine Jz 3 ?_
 refine JgB ?_ ?_<;>intro g44
 refine Jz 3 ?_
 refine Jr (Ck (i:=1) rfl rfl c9 rfl (gvt (rsg Jh (show([s]:List St)[0]?=some s from rfl)) rfl)) ?_
 refine Jr (Cr (v':= .bool false) (congrArg Value.bool (aEo (fun h=>h (hf.hd2 (by simpa using g44))))) (pW rfl rfl rfl)) ?_
 refine Jz 4 ?_
 refine Gg rfl rfl
 refine Jz 9 ?_
 refine Gg rfl rfl
 refine Jz 4 ?_
 refine Nk [0,3] 51 (false) ?_ ?_
 refine Jz 3 ?_
 refine JgB ?_ ?_<;>intro g55
 refine Jz 3 ?_
 refine Jr (Ck (i:=1) rfl rfl aAp rfl (gvt (rsg Jh (show([s]:List St)[0]?=some s from rfl)) rfl)) ?_
 refine Jz 1 ?_
 refine Jr (Cr (v':= .bool false) (congrArg Value.bool (aEo (by rw[hf.thn (by simpa using g55)];decide))) (Rd.gtr rfl rfl rfl)) ?_
 refine Jz 4 ?_
 refine Gg rfl rfl
 refine Jz 10 ?_
 refine Gg rfl rfl
 refine Jz 2 ?_
 refine Nk [0,3] 51 (false) ?_ ?_
 refine Jz 3 ?_
 refine JgB ?_ ?_<;>intro g66
 refine Jz 3 ?_
 refine Jr (Ck (i:=1) rfl rfl aAp rfl (gvt (rsg Jh (show([s]:List St)[0]?=some s from rfl)) rfl)) ?_
 refine Jz 1 ?_
 refine Jr (Cr (v':= .bool false) (congrArg Value.bool (aEo (by rw[hf.els (by simpa using g66)];decide))) (Rd.gtr rfl rfl rfl)) ?_
 refine Jz 4 ?_
 refine Gg rfl rfl
 refine Jz 10 ?_
 refine Gg rfl rfl
 refine Jz 7 ?_
 refine Jqf (SE P s hle hlow hf.exprs) (by show[]++(owns (lsF Bw s.A s.exprs)++(owns gl++[]))=[];rw[(Ma Bw s.A s.exprs).owns];rfl) (ocs (oca 1 rfl) (ocs (oca 2 rfl) (ocs (oca 3 rfl) (ocn _)))) ?_
 rintro _ _ ⟨rfl,rfl⟩
 refine⟨rfl,?_⟩
 refine Jz 4 ?_
 refine Dl (Cu (Df (Du (Je1 results139 ?_))))
 exact⟨rfl,rfl⟩
theorem FL(l:List St)(ih:∀x∈l,(∀(A:OA) (q:Nat),x.thn.length≤12→Dy (Ba x.thn)→Gy (Ba x.thn)→Dz 135 [vs A x.thn q, .func (.func 171) #[] #[]] [all (lsG Bw Dh A x.thn),glc] (fun v Γ'=>v= .bool true∧Γ'=[]))∧(∀(A:OA) (q:Nat),x.els.length≤12→Dy (Ba x.els)→Gy (Ba x.els)→Dz 135 [vs A x.els q, .func (.func 171) #[] #[]] [all (lsG Bw Dh A x.els),glc] (fun v Γ'=>v= .bool true∧Γ'=[])))(A:OA)(q:Nat)(hl:l.length≤12)(hlow:Dy (Ba l))(hfin:Gy (Ba l)):
    Dz 135 [vs A l q, .func (.func 171) #[] #[]] [all (lsG Bw Dh A l),glc] (fun v Γ'=>v= .bool true∧Γ'=[]):=by
 refine Am func135 ntmps135 fun w0=>?_
 refine Jz 7 ?_
 refine To.one 0 rfl (ros Dh A l) rfl (aEd ..) (Jz 7 ?_)
 refine Lf (fun s g mz ρ Γ=>∃(k:Nat),ρ=[s 0,s 1,s 8,(9,nv k)]∧Γ=[g 0,g 1,glc]∧mz=l.length-k∧(k≤l.length)) ⟨⟨0,rfl,rfl,rfl,om⟩,sb⟩ ?_
 rintro mz _ _ ⟨k,rfl,rfl,rfl,hk⟩
 refine Jz 6 ?_
 refine Jcp rfl ?_ ?_<;>intro c10
 obtain⟨x,hx⟩:=exg l k om
 obtain⟨hxk,⟨hxe,hxl⟩,⟨hxt,hxtl⟩,hxn,hxnl⟩:=Qg (Oc hlow (mog hx))
 have hxf:=Yr (Wj hfin (mog hx))
 refine Jz 19 ?_
 refine Yk Jh (by decide) 0 rfl hx (Db 2 rfl (lsG Bw Dh x.Ae x.els) (Dx _ _ _ _) (fun c hc=>Kw hx c (Ji x c hc)) (Db 3 rfl (lsG Bw Dh x.At x.thn) (Dx _ _ _ _) (fun c hc=>Kw hx c (Kj x c hc)) (Db 4 rfl (lsF Bw x.A x.exprs) (Ma _ _ _) (fun c hc=>Kw hx c (Ll x c hc)) (Jz 3 ?_))))
 refine JcQ rfl rfl rfl (Ent.func (first:=[]) (captured:=[]) rfl rfl rfl (kc.h 171 rfl)) (xW (some ⟨blk A,ofs A+k*6,none⟩) x hxf.1 hxe hxl) (by show[]++(owns (lsF Bw x.A x.exprs)++(owns gl++[]))=[];rw[(Ma Bw x.A x.exprs).owns];rfl) (ocs (oca 3 rfl) (ocs (oca 0 rfl) (ocs (oca 6 rfl) (ocn _)))) ?_
 rintro _ _ ⟨rfl,rfl⟩
 refine⟨rfl,?_⟩
 refine Jz 7 ?_
 refine Jqf ((ih x (mog hx)).1 x.At x.qt hxt hxtl hxf.2.1) (by show owns (lsG Bw Dh x.At x.thn)++(owns gl++[])=[];rw[(Dx Bw Dh x.At x.thn).owns];rfl) (ocs (oca 1 rfl) (ocs (oca 6 rfl) (ocn _))) ?_
 rintro _ _ ⟨rfl,rfl⟩
 refine⟨rfl,?_⟩
 refine Jz 8 ?_
 refine Jqf ((ih x (mog hx)).2 x.Ae x.qe hxn hxnl hxf.2.2) (by show owns (lsG Bw Dh x.Ae x.els)++(owns gl++[])=[];rw[(Dx Bw Dh x.Ae x.els).owns];rfl) (ocs (oca 2 rfl) (ocs (oca 6 rfl) (ocn _))) ?_
 rintro _ _ ⟨rfl,rfl⟩
 refine⟨rfl,?_⟩
 refine Jz 13 ?_
 refine Cg ⟨⟨k+1,rfl,rfl,rfl,om⟩,sb⟩
 refine Jz 11 ?_
 refine Cu (Df (Du (Je1 results135 ?_)))
 exact⟨rfl,rfl⟩
theorem qN:∀l:List St,∀(A:OA) (q:Nat),l.length≤12→Dy (Ba l)→Gy (Ba l)→Dz 135 [vs A l q, .func (.func 171) #[] #[]] [all (lsG Bw Dh A l),glc] (fun v Γ'=>v= .bool true∧Γ'=[])
 |l,A,q,h1,h2,h3=>FL l (fun x hx=>⟨qN x.thn,qN x.els⟩) A q h1 h2 h3
termination_by l=>SizeOf.sizeOf l
decreasing_by
 all_goals
  have h:=aFq hx
  have:SizeOf.sizeOf x.thn<SizeOf.sizeOf x∧SizeOf.sizeOf x.els<SizeOf.sizeOf x:=by cases x;simp only[St.mk.sizeOf_spec];omega
  omega
theorem FM(l:List St)(ih:∀x∈l,(∀(A:OA) (q:Nat),x.thn.length≤12→Dy (Ba x.thn)→Gy (Ba x.thn)→Dz 135 [vs A x.thn q, .func (.func 136) #[] #[]] [all (lsG Bw Dh A x.thn),glc] (fun v Γ'=>v= .bool true∧Γ'=[]))∧(∀(A:OA) (q:Nat),x.els.length≤12→Dy (Ba x.els)→Gy (Ba x.els)→Dz 135 [vs A x.els q, .func (.func 136) #[] #[]] [all (lsG Bw Dh A x.els),glc] (fun v Γ'=>v= .bool true∧Γ'=[])))(A:OA)(q:Nat)(hl:l.length≤12)(hlow:Dy (Ba l))(hfin:Gy (Ba l)):
    Dz 135 [vs A l q, .func (.func 136) #[] #[]] [all (lsG Bw Dh A l),glc] (fun v Γ'=>v= .bool true∧Γ'=[]):=by
 refine Am func135 ntmps135 fun w0=>?_
 refine Jz 7 ?_
 refine To.one 0 rfl (ros Dh A l) rfl (aEd ..) (Jz 7 ?_)
 refine Lf (fun s g mz ρ Γ=>∃(k:Nat),ρ=[s 0,s 1,s 8,(9,nv k)]∧Γ=[g 0,g 1,glc]∧mz=l.length-k∧(k≤l.length)) ⟨⟨0,rfl,rfl,rfl,om⟩,sb⟩ ?_
 rintro mz _ _ ⟨k,rfl,rfl,rfl,hk⟩
 refine Jz 6 ?_
 refine Jcp rfl ?_ ?_<;>intro c10
 obtain⟨x,hx⟩:=exg l k om
 obtain⟨hxk,⟨hxe,hxl⟩,⟨hxt,hxtl⟩,hxn,hxnl⟩:=Qg (Oc hlow (mog hx))
 have hxf:=Yr (Wj hfin (mog hx))
 refine Jz 19 ?_
 refine Yk Jh (by decide) 0 rfl hx (Db 2 rfl (lsG Bw Dh x.Ae x.els) (Dx _ _ _ _) (fun c hc=>Kw hx c (Ji x c hc)) (Db 3 rfl (lsG Bw Dh x.At x.thn) (Dx _ _ _ _) (fun c hc=>Kw hx c (Kj x c hc)) (Db 4 rfl (lsF Bw x.A x.exprs) (Ma _ _ _) (fun c hc=>Kw hx c (Ll x c hc)) (Jz 3 ?_))))
 refine JcQ rfl rfl rfl (Ent.func (first:=[]) (captured:=[]) rfl rfl rfl (kc.h 136 rfl)) (xX (some ⟨blk A,ofs A+k*6,none⟩) x hxf.1 hxe hxl) (by show[]++(owns (lsF Bw x.A x.exprs)++(owns gl++[]))=[];rw[(Ma Bw x.A x.exprs).owns];rfl) (ocs (oca 3 rfl) (ocs (oca 0 rfl) (ocs (oca 6 rfl) (ocn _)))) ?_
 rintro _ _ ⟨rfl,rfl⟩
 refine⟨rfl,?_⟩
 refine Jz 7 ?_
 refine Jqf ((ih x (mog hx)).1 x.At x.qt hxt hxtl hxf.2.1) (by show owns (lsG Bw Dh x.At x.thn)++(owns gl++[])=[];rw[(Dx Bw Dh x.At x.thn).owns];rfl) (ocs (oca 1 rfl) (ocs (oca 6 rfl) (ocn _))) ?_
 rintro _ _ ⟨rfl,rfl⟩
 refine⟨rfl,?_⟩
 refine Jz 8 ?_
 refine Jqf ((ih x (mog hx)).2 x.Ae x.qe hxn hxnl hxf.2.2) (by show owns (lsG Bw Dh x.Ae x.els)++(owns gl++[])=[];rw[(Dx Bw Dh x.Ae x.els).owns];rfl) (ocs (oca 2 rfl) (ocs (oca 6 rfl) (ocn _))) ?_
 rintro _ _ ⟨rfl,rfl⟩
 refine⟨rfl,?_⟩
 refine Jz 13 ?_
 refine Cg ⟨⟨k+1,rfl,rfl,rfl,om⟩,sb⟩
 refine Jz 11 ?_
 refine Cu (Df (Du (Je1 results135 ?_)))
 exact⟨rfl,rfl⟩
theorem qO:∀l:List St,∀(A:OA) (q:Nat),l.length≤12→Dy (Ba l)→Gy (Ba l)→Dz 135 [vs A l q, .func (.func 136) #[] #[]] [all (lsG Bw Dh A l),glc] (fun v Γ'=>v= .bool true∧Γ'=[])
 |l,A,q,h1,h2,h3=>FM l (fun x hx=>⟨qO x.thn,qO x.els⟩) A q h1 h2 h3
termination_by l=>SizeOf.sizeOf l
decreasing_by
 all_goals
  have h:=aFq hx
  have:SizeOf.sizeOf x.thn<SizeOf.sizeOf x∧SizeOf.sizeOf x.els<SizeOf.sizeOf x:=by cases x;simp only[St.mk.sizeOf_spec];omega
  omega
theorem FN(l:List St)(ih:∀x∈l,(∀(A:OA) (q:Nat),x.thn.length≤12→Dy (Ba x.thn)→Gy (Ba x.thn)→Dz 135 [vs A x.thn q, .func (.func 139) #[] #[]] [all (lsG Bw Dh A x.thn),glc] (fun v Γ'=>v= .bool true∧Γ'=[]))∧(∀(A:OA) (q:Nat),x.els.length≤12→Dy (Ba x.els)→Gy (Ba x.els)→Dz 135 [vs A x.els q, .func (.func 139) #[] #[]] [all (lsG Bw Dh A x.els),glc] (fun v Γ'=>v= .bool true∧Γ'=[])))(A:OA)(q:Nat)(hl:l.length≤12)(hlow:Dy (Ba l))(hfin:Gy (Ba l)):
    Dz 135 [vs A l q, .func (.func 139) #[] #[]] [all (lsG Bw Dh A l),glc] (fun v Γ'=>v= .bool true∧Γ'=[]):=by
 refine Am func135 ntmps135 fun w0=>?_
 refine Jz 7 ?_
 refine To.one 0 rfl (ros Dh A l) rfl (aEd ..) (Jz 7 ?_)
 refine Lf (fun s g mz ρ Γ=>∃(k:Nat),ρ=[s 0,s 1,s 8,(9,nv k)]∧Γ=[g 0,g 1,glc]∧mz=l.length-k∧(k≤l.length)) ⟨⟨0,rfl,rfl,rfl,om⟩,sb⟩ ?_
 rintro mz _ _ ⟨k,rfl,rfl,rfl,hk⟩
 refine Jz 6 ?_
 refine Jcp rfl ?_ ?_<;>intro c10
 obtain⟨x,hx⟩:=exg l k om
 obtain⟨hxk,⟨hxe,hxl⟩,⟨hxt,hxtl⟩,hxn,hxnl⟩:=Qg (Oc hlow (mog hx))
 have hxf:=Yr (Wj hfin (mog hx))
 refine Jz 19 ?_
 refine Yk Jh (by decide) 0 rfl hx (Db 2 rfl (lsG Bw Dh x.Ae x.els) (Dx _ _ _ _) (fun c hc=>Kw hx c (Ji x c hc)) (Db 3 rfl (lsG Bw Dh x.At x.thn) (Dx _ _ _ _) (fun c hc=>Kw hx c (Kj x c hc)) (Db 4 rfl (lsF Bw x.A x.exprs) (Ma _ _ _) (fun c hc=>Kw hx c (Ll x c hc)) (Jz 3 ?_))))
 refine JcQ rfl rfl rfl (Ent.func (first:=[]) (captured:=[]) rfl rfl rfl (kc.h 139 rfl)) (uF (some ⟨blk A,ofs A+k*6,none⟩) x hxf.1 hxe hxl) (by show[]++(owns (lsF Bw x.A x.exprs)++(owns gl++[]))=[];rw[(Ma Bw x.A x.exprs).owns];rfl) (ocs (oca 3 rfl) (ocs (oca 0 rfl) (ocs (oca 6 rfl) (ocn _)))) ?_
 rintro _ _ ⟨rfl,rfl⟩
 refine⟨rfl,?_⟩
 refine Jz 7 ?_
 refine Jqf ((ih x (mog hx)).1 x.At x.qt hxt hxtl hxf.2.1) (by show owns (lsG Bw Dh x.At x.thn)++(owns gl++[])=[];rw[(Dx Bw Dh x.At x.thn).owns];rfl) (ocs (oca 1 rfl) (ocs (oca 6 rfl) (ocn _))) ?_
 rintro _ _ ⟨rfl,rfl⟩
 refine⟨rfl,?_⟩
 refine Jz 8 ?_
 refine Jqf ((ih x (mog hx)).2 x.Ae x.qe hxn hxnl hxf.2.2) (by show owns (lsG Bw Dh x.Ae x.els)++(owns gl++[])=[];rw[(Dx Bw Dh x.Ae x.els).owns];rfl) (ocs (oca 2 rfl) (ocs (oca 6 rfl) (ocn _))) ?_
 rintro _ _ ⟨rfl,rfl⟩
 refine⟨rfl,?_⟩
 refine Jz 13 ?_
 refine Cg ⟨⟨k+1,rfl,rfl,rfl,om⟩,sb⟩
 refine Jz 11 ?_
 refine Cu (Df (Du (Je1 results135 ?_)))
 exact⟨rfl,rfl⟩
theorem qP:∀l:List St,∀(A:OA) (q:Nat),l.length≤12→Dy (Ba l)→Gy (Ba l)→Dz 135 [vs A l q, .func (.func 139) #[] #[]] [all (lsG Bw Dh A l),glc] (fun v Γ'=>v= .bool true∧Γ'=[])
 |l,A,q,h1,h2,h3=>FN l (fun x hx=>⟨qP x.thn,qP x.els⟩) A q h1 h2 h3
termination_by l=>SizeOf.sizeOf l
decreasing_by
 all_goals
  have h:=aFq hx
  have:SizeOf.sizeOf x.thn<SizeOf.sizeOf x∧SizeOf.sizeOf x.els<SizeOf.sizeOf x:=by cases x;simp only[St.mk.sizeOf_spec];omega
  omega
end Go.Proofs.YtlihklladkagpaaGreatDoor

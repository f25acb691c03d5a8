/- Own text. -/
import Derived.Test.YtlihklladkagpaaGreatDoorHa
import Derived.Test.YtlihklladkagpaaGreatDoorBb
set_option maxHeartbeats 8000000
set_option maxRecDepth 100000
set_option linter.unusedVariables false
set_option linter.unusedSimpArgs false
namespace Go.Proofs.YtlihklladkagpaaGreatDoor
open Go.Proofs.Tryz
open Go.RowKit Go.Flow Go.Mem Go.Sep Go.In
def lsF(f:Ex→List Value)(A:OA)(l:List Ex):List Ai:=ros f A l::El f l
def lsG(f:Ex→List Value)(g:St→List Value)(A:OA)(l:List St):List Ai:=ros g A l::Ez f g l
theorem xO(f:Ex→List Value)(O:List Ex)(e:Ex):El f (O++[e])=El f O++e.kids f:=by
 rw[Nc,Nc,aFe]
 show _++(e.kids f++[])=_
 rw[aEz]
theorem xP(f:Ex→List Value)(g:St→List Value)(O:List St)(e:St):Ez f g (O++[e])=Ez f g O++e.kids f g:=by
 rw[Pi,Pi,aFe]
 show _++(e.kids f g++[])=_
 rw[aEz]
section
variable{C:Cx}{ρ:Cb}{Γ:List Ai}{K:Act→World→Prop}{A:OA}{ty:TypeId}{q:Nat}
theorem qK{f:Ex→List Value}(O:List Ex)(e:Ex)(k:To C ρ (all (El f (O++[e]))::Γ) K):To C ρ (all (e.kids f)::all (El f O)::Γ) K:=
 To.perm (aFc _ _ _) (Kq (by rw[←xO];exact k))
theorem ME{f:Ex→List Value}{g:St→List Value}(O:List St)(e:St)(k:To C ρ (all (Ez f g (O++[e]))::Γ) K):To C ρ (all (e.kids f g)::all (Ez f g O)::Γ) K:=
 To.perm (aFc _ _ _) (Kq (by rw[←xP];exact k))
theorem VG{f:Ex→List Value}{z:Nat}(l:List Ex)(k:To C ρ (all (lsF f A l)::Γ) K):To C ρ (rows f ty z A q l::all (El f l)::Γ) K:=Cq (Dn k)
theorem SA{f:Ex→List Value}{g:St→List Value}{z:Nat}(l:List St)(k:To C ρ (all (lsG f g A l)::Γ) K):To C ρ (rows g ty z A q l::all (Ez f g l)::Γ) K:=Cq (Dn k)
theorem VH(f:Ex→List Value)(k:To C ρ (all (El f [])::Γ) K):To C ρ Γ K:=Ko k
theorem SB(f:Ex→List Value)(g:St→List Value)(k:To C ρ (all (Ez f g [])::Γ) K):To C ρ Γ K:=Ko k
theorem XN{f:Ex→List Value}{g:St→List Value}(s:St)(k:To C ρ (all (s.kids f g)::Γ) K):To C ρ (all (lsF f s.A s.exprs)::all (lsG f g s.At s.thn)::all (lsG f g s.Ae s.els)::Γ) K:=by
 refine To.perm (Γ':=all (lsG f g s.At s.thn)::all (lsG f g s.Ae s.els)::all (lsF f s.A s.exprs)::Γ) ?_ (Kq (To.perm (aFc _ _ _) (Kq ?_)))
 ·exact(List.Perm.trans (List.Perm.cons _ (aFc _ _ _)) (aFc _ _ _)).symm
 ·rw[Rz]at k;exact k
end
theorem Re{f:Ex→List Value}(e:Ex):ros f e.A e.args∈e.kids f:=by rw[Lg];exact aEd ..
theorem Sz{f:Ex→List Value}{e x:Ex}{j:Nat}(h:e.args[j]?=some x):∀c∈x.kids f,c∈e.kids f:=fun c hc=>by
 rw[Lg,Nc]
 exact aEb _ (aEy.2 ⟨x,mog h,hc⟩)
theorem Yo{f:Ex→List Value}{A:OA}{l:List Ex}{x:Ex}{j:Nat}(h:l[j]?=some x):∀c∈x.kids f,c∈lsF f A l:=fun c hc=>by
 show c∈_::El f l
 rw[Nc]
 exact aEb _ (aEy.2 ⟨x,mog h,hc⟩)
theorem Kw{f:Ex→List Value}{g:St→List Value}{A:OA}{l:List St}{x:St}{j:Nat}(h:l[j]?=some x):∀c∈x.kids f g,c∈lsG f g A l:=fun c hc=>by
 show c∈_::Ez f g l
 rw[Pi]
 exact aEb _ (aEy.2 ⟨x,mog h,hc⟩)
theorem Ll{f:Ex→List Value}{g:St→List Value}(s:St):∀c∈lsF f s.A s.exprs,c∈s.kids f g:=fun c hc=>by rw[Rz];exact aGo _ hc
theorem Kj{f:Ex→List Value}{g:St→List Value}(s:St):∀c∈lsG f g s.At s.thn,c∈s.kids f g:=fun c hc=>by rw[Rz];exact aGf _ (aGo _ hc)
theorem Ji{f:Ex→List Value}{g:St→List Value}(s:St):∀c∈lsG f g s.Ae s.els,c∈s.kids f g:=fun c hc=>by rw[Rz];exact aGf _ (aGf _ hc)
theorem Ma(f:Ex→List Value)(A:OA)(l:List Ex):Lax (lsF f A l):=Lax.cons rfl (fC f l)
theorem Dx(f:Ex→List Value)(g:St→List Value)(A:OA)(l:List St):Lax (lsG f g A l):=Lax.cons rfl (aD f g l)
mutual
def PE.low:PE→Prop
 |⟨o,_,_,l⟩=>o≤23∧l.length≤2∧Kk l
def Kk:List PE→Prop
 |[]=>True
 |e::r=>PE.low e∧Kk r
end
mutual
def PS.low:PS→Prop
 |⟨k,_,_,es,t,e⟩=>k≤10∧es.length≤4∧Kk es∧(t.length≤12∧Dy t)∧e.length≤12∧Dy e
def Dy:List PS→Prop
 |[]=>True
 |e::r=>PS.low e∧Dy r
end
theorem Wi:∀{l:List PE},Kk l→∀x∈l,x.low
 |[],_,x,h=>by cases h
 | e::r,h,x,hx=>by
   rcases aEi.1 hx with rfl|hx
   ·exact h.1
   ·exact Wi h.2 x hx
theorem Un:∀{l:List PE},(∀x∈l,x.low)→Kk l
 |[],_=>trivial
 |e::r,h=>⟨h e (aEd ..),Un fun x hx=>h x (aEb _ hx)⟩
theorem dP:∀{l:List PS},Dy l→∀x∈l,x.low
 |[],_,x,h=>by cases h
 | e::r,h,x,hx=>by
   rcases aEi.1 hx with rfl|hx
   ·exact h.1
   ·exact dP h.2 x hx
theorem Yp:∀{l:List PS},(∀x∈l,x.low)→Dy l
 |[],_=>trivial
 |e::r,h=>⟨h e (aEd ..),Yp fun x hx=>h x (aEb _ hx)⟩
theorem Qf{e x:Ex}(h:e.pure.low)(hx:x∈e.args):x.pure.low:=by
 rw[Fu]at h
 refine Wi h.2.2 x.pure ?_
 rw[Bz];exact aEv.2 ⟨x,hx,rfl⟩
theorem Tw{e:Ex}(h:e.pure.low):e.op≤23∧e.args.length≤2:=by
 rw[Fu]at h
 refine⟨h.1,?_⟩
 have:=h.2.1
 rwa[Bz,aEg]at this
theorem Ob{l:List Ex}(h:Kk (Cv l)){x:Ex}(hx:x∈l):x.pure.low:=Wi h x.pure (by rw[Bz];exact aEv.2 ⟨x,hx,rfl⟩)
theorem Oc{l:List St}(h:Dy (Ba l)){x:St}(hx:x∈l):x.pure.low:=dP h x.pure (by rw[Je];exact aEv.2 ⟨x,hx,rfl⟩)
theorem Qg{s:St}(h:s.pure.low):s.kind≤10∧(s.exprs.length≤4∧Kk (Cv s.exprs))∧(s.thn.length≤12∧Dy (Ba s.thn))∧s.els.length≤12∧Dy (Ba s.els):=by
 rw[Nh]at h
 obtain⟨h1,h2,h3,⟨h4,h5⟩,h6,h7⟩:=h
 rw[Bz,aEg]at h2
 rw[Je,aEg]at h4 h6
 exact⟨h1,⟨h2,h3⟩,⟨h4,h5⟩,h6,h7⟩
section
variable{c:Ct}{np:Nat}
theorem Kh.low{d:Nat}{e:PE}(h:Kh c np d e):e.low:=by
 induction h with
 |num d n h=>exact⟨show 1≤23 by decide,aEw _,trivial⟩
 |var d k h=>exact⟨show 5≤23 by decide,aEw _,trivial⟩
 |par d k h=>exact⟨show 5≤23 by decide,aEw _,trivial⟩
 |now d=>exact⟨show 4≤23 by decide,aEw _,trivial⟩
 |get d e ht h ih=>exact⟨show 6≤23 by decide,show 1≤2 by decide,ih,trivial⟩
 |size d ht=>exact⟨show 8≤23 by decide,aEw _,trivial⟩
 |neg d e h ih=>exact⟨show 9≤23 by decide,show 1≤2 by decide,ih,trivial⟩
 |bin d op a b ho ha hb iha ihb=>exact⟨show op≤23 by omega,aEu 2,iha,ihb,trivial⟩
theorem Pj.low{d:Nat}{e:PE}(h:Pj c np d e):e.low:=by
 induction h with
 |tf d op h=>exact⟨show op≤23 by omega,aEw _,trivial⟩
 |b0 d=>exact⟨show 5≤23 by decide,aEw _,trivial⟩
 |flag d k h=>exact⟨show 5≤23 by decide,aEw _,trivial⟩
 |has d e ht h=>exact⟨show 7≤23 by decide,show 1≤2 by decide,h.low,trivial⟩
 |not d e h ih=>exact⟨show 10≤23 by decide,show 1≤2 by decide,ih,trivial⟩
 |two d op a b ho ha hb iha ihb=>exact⟨show op≤23 by omega,aEu 2,iha,ihb,trivial⟩
 |cmp d op a b ho ha hb=>exact⟨show op≤23 by omega,aEu 2,ha.low,hb.low,trivial⟩
theorem xQ:∀l:List PS,l.length≤Ca l
 |[]=>aEu _
 | s::r=>by
   have:=xQ r
   show r.length+1≤PS.cnt s+Ca r
   have h1:1≤PS.cnt s:=by cases s;show 1≤1+_+_;omega
   omega
theorem fH{s:PS}:∀{l:List PS},s∈l→PS.cnt s≤Ca l
 | a::r,h=>by
   show PS.cnt s≤PS.cnt a+Ca r
   rcases aEi.1 h with rfl|h
   ·omega
   ·have:=fH h;omega
theorem StE.low(ok:c.Ok){d:Nat}{s:PS}(h:StE c np d s):PS.cnt s≤12→s.low:=by
 have nl:Dy []:=trivial
 have len {l:List PS} (h:Ca l≤12):l.length≤12:=aGd (xQ l) h
 have all {l:List PS} (h:Ca l≤12) (ih:∀s∈l,PS.cnt s≤12→s.low):Dy l:=Yp fun x hx=>ih x hx (aGd (fH hx) h)
 have par {to h n:Nat} {ar:List Nat} (ha:c.ars[to]?=some ar) (hh:ar[h]?=some n):n≤2:=(ok.each ar (mog ha)).2.2 n (mog hh)
 induction h with
 |setB d e h=>exact fun _=>⟨show 1≤10 by decide,show 1≤4 by decide,⟨h.low,trivial⟩,⟨aEw _,nl⟩,aEw _,nl⟩
 |setX d k e hk h=>exact fun _=>⟨show 1≤10 by decide,show 1≤4 by decide,⟨h.low,trivial⟩,⟨aEw _,nl⟩,aEw _,nl⟩
 |put d a b ht ha hb=>exact fun _=>⟨show 2≤10 by decide,show 2≤4 by decide,⟨ha.low,hb.low,trivial⟩,⟨aEw _,nl⟩,aEw _,nl⟩
 |del d a ht ha=>exact fun _=>⟨show 3≤10 by decide,show 1≤4 by decide,⟨ha.low,trivial⟩,⟨aEw _,nl⟩,aEw _,nl⟩
 | ife d e t l h ht hl iht ihl=>
   intro hc
   have hc:1+Ca t+Ca l≤12:=hc
   exact⟨show 4≤10 by decide,show 1≤4 by decide,⟨h.low,trivial⟩,⟨len om,all om iht⟩,len om,all om ihl⟩
 | whl d e t h ht iht=>
   intro hc
   have hc:1+Ca t+Ca []≤12:=hc
   exact⟨show 5≤10 by decide,show 1≤4 by decide,⟨h.low,trivial⟩,⟨len om,all om iht⟩,aEw _,nl⟩
 | send d to h ar l ha hh hl=>
   have:=par ha hh
   exact fun _=>⟨show 6≤10 by decide,show l.length≤4 by omega,Un fun x hx=>(hl x hx).low,⟨aEw _,nl⟩,aEw _,nl⟩
 | after d h ar e l ha hh he hl=>
   have:=par ha hh
   exact fun _=>⟨show 7≤10 by decide,show l.length+1≤4 by omega,⟨he.low,Un fun x hx=>(hl x hx).low⟩,⟨aEw _,nl⟩,aEw _,nl⟩
 | store d a b l ha hb hl ihl=>
   intro hc
   have hc:1+Ca []+Ca l≤12:=hc
   exact⟨show 8≤10 by decide,show 2≤4 by decide,⟨ha.low,hb.low,trivial⟩,⟨aEw _,nl⟩,len om,all om ihl⟩
 | fetch d k e l hk h hl ihl=>
   intro hc
   have hc:1+Ca []+Ca l≤12:=hc
   exact⟨show 9≤10 by decide,show 1≤4 by decide,⟨h.low,trivial⟩,⟨aEw _,nl⟩,len om,all om ihl⟩
 |stop d=>exact fun _=>⟨show 10≤10 by decide,aEw _,trivial,⟨aEw _,nl⟩,aEw _,nl⟩
end
theorem xR(e:Ex)(hlow:e.pure.low)(ih:∀x∈e.args,x.pure.low→Dz 95 [.agg (Dk x).toArray] [all (x.kids Dk)] (fun v Γ'=>∃e':Ex,v= .agg (Bw e').toArray∧Γ'=[all (e'.kids Bw)]∧e'.pure=x.pure)):
    Dz 95 [.agg (Dk e).toArray] [all (e.kids Dk)] (fun v Γ'=>∃e':Ex,v= .agg (Bw e').toArray∧Γ'=[all (e'.kids Bw)]∧e'.pure=e.pure):=by
 obtain⟨hop,hal⟩:=Tw hlow
 refine Am func95 ntmps95 fun w0=>?_
 refine Js (To.g (Jbo fun b1=>?_))
 refine Jal fun b2=>?_
 refine Jz 6 ?_
 refine Jr (Fv rfl rfl underlying3 underlying247 (IntWalk.u8_in _ om)) ?_
 refine Jz 4 ?_
 refine Jr (.bd [.int .u8 ((e.op:Nat):Int), .string e.name,iv e.n,nz]) ?_
 refine Jal fun b3=>?_
 refine Jz 5 ?_
 refine To.one 3 rfl (ros Dk e.A e.args) rfl (Re e) (Jz 8 ?_)
 refine Cz (Bw) 249 4 (VH Bw (Cw (fun s g mz ρ Γ=>∃(Ao:OA) (qo:Nat) (O:List Ex) (k:Nat),ρ=[s 2,s 3,s 15,s 16,(17,nv k)]∧Γ=[g 4,box b3 [.int .u8 ((e.op:Nat):Int), .string e.name,iv e.n,vs Ao O qo] 249,g 2,g 6,rows Bw 249 4 Ao qo O,all (El Bw O)]∧mz=e.args.length-k∧(k≤e.args.length)∧(Cv O=Cv (e.args.take k))) ⟨⟨none,0,([]:List Ex),0,rfl,rfl,rfl,om,rfl⟩,sb⟩ ?_))
 rintro mz _ _ ⟨Ao,qo,O,k,rfl,rfl,rfl,hk,hO⟩
 have hOl:O.length≤2:=by
  have h:=congrArg List.length hO
  rw[Bz,aEg,Bz,aEg,aEe]at h
  omega
 refine Jz 6 ?_
 refine Jcp rfl ?_ ?_<;>intro c18
 obtain⟨x,hx⟩:=exg e.args k om
 refine Jz 8 ?_
 refine Jal fun b5=>?_
 refine Jz 3 ?_
 refine Db 4 rfl (x.kids Dk) (Ex.lax Dk x) (Sz hx) (Ki (tel []) mixed.h (Hy 1 3 rfl (by kernel_rfl) ?_ ?_))
 refine Lc [box b5 (Dk x) 220] [0,2,503,101,204,5505,6,507] (ocs (oca 1 rfl) (ocn _)) ?_
 refine Jz 2 ?_
 refine Da [0] (ih x (mog hx) (Qf hlow (mog hx))) ?_
 rintro _ _ ⟨e2,rfl,rfl,he2⟩
 refine⟨ocs (oca 1 rfl) (ocn _),?_⟩
 refine Jz 1 ?_
 refine Es (Bw e2) fun b25=>?_
 refine Fw.ge rfl rfl rfl rfl (Bg Hw (i:=7) (j:=0) (el:=e2) rfl QM rfl rfl rfl rfl rfl om om) ?_
 rintro _ _ ⟨A26,q26,rfl,rfl⟩
 refine⟨ocs (oca 2 rfl) (ocn _),?_⟩
 refine Jz 1 ?_
 refine Fw.up rfl rfl rfl (Up.store (i:=4) rfl rfl rfl Xk rfl rfl (bt1 rfl)) (ocs (oca 2 rfl) (ocn _)) ?_
 refine Jz 3 ?_
 refine JF (Jj (qK O e2 (Jz 5 ?_)))
 refine Cg ⟨⟨A26,q26,(O++[e2]),k+1,rfl,rfl,rfl,om,(by rw[Bz,aEq,←Bz,hO,Cf hx,Bz,Bz,aEq];show _++[e2.pure]=_++[x.pure];rw[he2])⟩,sb⟩
 refine Lc [box b5 (Dk x) 220] [0,2,101,503,204,5505,6,507] (ocs (oca 1 rfl) (ocn _)) ?_
 refine Jz 3 ?_
 refine Da [0] (ih x (mog hx) (Qf hlow (mog hx))) ?_
 rintro _ _ ⟨e2_2,rfl,rfl,he2_2⟩
 refine⟨ocs (oca 1 rfl) (ocn _),?_⟩
 refine Es (Bw e2_2) fun b25_2=>?_
 refine Fw.ge rfl rfl rfl rfl (Bg Hw (i:=7) (j:=0) (el:=e2_2) rfl QM rfl rfl rfl rfl rfl om om) ?_
 rintro _ _ ⟨A26_2,q26_2,rfl,rfl⟩
 refine⟨ocs (oca 2 rfl) (ocn _),?_⟩
 refine Jz 1 ?_
 refine Fw.up rfl rfl rfl (Up.store (i:=4) rfl rfl rfl Xk rfl rfl (bt1 rfl)) (ocs (oca 2 rfl) (ocn _)) ?_
 refine Jz 3 ?_
 refine JF (Jj (qK O e2_2 (Jz 5 ?_)))
 refine Cg ⟨⟨A26_2,q26_2,(O++[e2_2]),k+1,rfl,rfl,rfl,om,(by rw[Bz,aEq,←Bz,hO,Cf hx,Bz,Bz,aEq];show _++[e2_2.pure]=_++[x.pure];rw[he2_2])⟩,sb⟩
 refine Jz 12 ?_
 refine Nz (Nz (VG O (Gf [0] results95 ?_)))
 exact⟨(⟨e.op,e.name,e.n,Ao,qo,O⟩:Ex),rfl,rfl,by rw[Fu e];show(⟨e.op,e.name,e.n,Cv O⟩:PE)=_;rw[hO,aEm om]⟩
theorem jU:∀e:Ex,e.pure.low→Dz 95 [.agg (Dk e).toArray] [all (e.kids Dk)] (fun v Γ'=>∃e':Ex,v= .agg (Bw e').toArray∧Γ'=[all (e'.kids Bw)]∧e'.pure=e.pure)
 |e,h=>xR e h (fun x hx=>jU x)
termination_by e=>SizeOf.sizeOf e
decreasing_by
 cases e with
 | mk op s n A q l=>
   have:=aFq (show x∈l from hx)
   simp only[Ex.mk.sizeOf_spec]
   omega
def Yq(l:List St):Value→List Ai→Prop:=fun v Γ'=>∃(A':OA) (q':Nat) (l':List St),v=vs A' l' q'∧Γ'=[all (lsG Bw Dh A' l')]∧Ba l'=Ba l
theorem xS(l:List St)(ih:∀x∈l,(∀(A:OA) (q:Nat),x.thn.length≤12→Dy (Ba x.thn)→Dz 56 [vs A x.thn q] [all (lsG Dk encS A x.thn)] (Yq x.thn))∧(∀(A:OA) (q:Nat),x.els.length≤12→Dy (Ba x.els)→Dz 56 [vs A x.els q] [all (lsG Dk encS A x.els)] (Yq x.els)))(A:OA)(q:Nat)(hl:l.length≤12)(hlow:Dy (Ba l)):
    Dz 56 [vs A l q] [all (lsG Dk encS A l)] (Yq l):=by
 refine Am func56 ntmps56 fun w0=>?_
 refine Jz 12 ?_
 refine To.one 0 rfl (ros encS A l) rfl (aEd ..) (Jz 7 ?_)
 refine Cz (Dh) 246 6 (SB Bw Dh (Cw (fun s g mz ρ Γ=>∃(Ao:OA) (qo:Nat) (O:List St) (k:Nat),ρ=[(3,vs Ao O qo),s 9,s 10,(11,nv k)]∧Γ=[g 2,g 3,rows Dh 246 6 Ao qo O,all (Ez Bw Dh O)]∧mz=l.length-k∧(k≤l.length)∧(Ba O=Ba (l.take k))) ⟨⟨none,0,([]:List St),0,rfl,rfl,rfl,om,rfl⟩,sb⟩ ?_))
 rintro mz _ _ ⟨Ao,qo,O,k,rfl,rfl,rfl,hk,hO⟩
 have hOl:O.length≤12:=by
  have h:=congrArg List.length hO
  rw[Je,aEg,Je,aEg,aEe]at h
  omega
 refine Jz 6 ?_
 refine Jcp rfl ?_ ?_<;>intro c12
 obtain⟨x,hx⟩:=exg l k om
 obtain⟨hxk,⟨hxe,hxl⟩,⟨hxt,hxtl⟩,hxn,hxnl⟩:=Qg (Oc hlow (mog hx))
 refine Jz 8 ?_
 refine Jal fun b5=>?_
 refine Jz 4 ?_
 refine Db 2 rfl (lsF Dk x.A x.exprs) (Ma _ _ _) (fun c hc=>Kw hx c (Ll x c hc)) (Db 3 rfl (lsG Dk encS x.Ae x.els) (Dx _ _ _ _) (fun c hc=>Kw hx c (Ji x c hc)) (Db 4 rfl (lsG Dk encS x.At x.thn) (Dx _ _ _ _) (fun c hc=>Kw hx c (Kj x c hc)) (Ru (T:=(Nat)×(OA)×(Nat)×(List St)×(OA)×(Nat)×(List St)) (fun t=>([(3,vs Ao O qo),(9,vs A l q),(10,nv l.length),(11,nv k),(5,pv b5),(6, .pointer (some ⟨(t.1),0,none⟩))],[ros encS A l,all (lsG Dk encS A l),rows Dh 246 6 Ao qo O,all (Ez Bw Dh O),box b5 (encS x) 217,box (t.1) [.int .u8 ((x.kind:Nat):Int), .string x.name, .string x.hand,nz, .slice (t.2.1) (t.2.2.2.1).length (t.2.2.1), .slice (t.2.2.2.2.1) (t.2.2.2.2.2.2).length (t.2.2.2.2.2.1)] 246,all (lsG Bw Dh (t.2.1) (t.2.2.2.1)),all (lsG Bw Dh (t.2.2.2.2.1) (t.2.2.2.2.2.2)),all (lsF Dk x.A x.exprs)])) (fun t=>(Ba (t.2.2.2.1)=Ba x.thn)∧(Ba (t.2.2.2.2.2.2)=Ba x.els)) ?_ ?_)))
 refine Ki (VY (tel []) (PT [(9,[all (lsG Dk encS x.At x.thn)],(Yq x.thn)),(12,[all (lsG Dk encS x.Ae x.els)],(Yq x.els))])) mixed.h (Hy 14 9 rfl (by kernel_rfl) ?_ ?_)
 refine Hy 14 12 rfl (by kernel_rfl) ?_ ?_
 refine Lc [box b5 (encS x) 217] [0,1,2,3,4,5,6,7,8,10,11,509,512,13,214,15515] (ocs (oca 3 rfl) (ocn _)) ?_
 refine Jz 2 ?_
 refine Fw.f rfl (Fv rfl rfl underlying3 underlying243 (IntWalk.u8_in _ om)) ?_
 refine Jz 8 ?_
 refine Ka [0] rfl rfl rfl rfl .fc rfl ((ih x (mog hx)).1 x.At x.qt hxt hxtl) rfl ?_
 rintro _ _ ⟨At2,qt2,t2,rfl,rfl,ht2⟩
 refine⟨ocs (oca 3 rfl) (ocn _),?_⟩
 refine Ka [1] rfl rfl rfl rfl .fc rfl ((ih x (mog hx)).2 x.Ae x.qe hxn hxnl) rfl ?_
 rintro _ _ ⟨Ae2,qe2,e2,rfl,rfl,he2⟩
 refine⟨ocs (oca 3 rfl) (ocn _),?_⟩
 refine Fw.f rfl (.bd [.int .u8 ((x.kind:Nat):Int), .string x.name, .string x.hand,nz,vs At2 t2 qt2,vs Ae2 e2 qe2]) ?_
 refine Fw.mk rfl rfl rfl rfl rfl (Mk.alloc rfl WV) ?_
 rintro _ _ ⟨b6,rfl,rfl⟩
 refine Fw.up rfl rfl rfl (Bl (i:=0) rfl rfl rfl WU rfl rfl rfl (bta rfl)) (ocs (oca 4 rfl) (ocn _)) ?_
 refine Jz 2 ?_
 refine Lv (b6,At2,qt2,t2,Ae2,qe2,e2) ⟨ht2,he2⟩
 refine Lc [box b5 (encS x) 217] [0,1,2,3,4,5,6,7,8,10,11,509,214,15512,13,515] (ocs (oca 3 rfl) (ocn _)) ?_
 refine Jz 2 ?_
 refine Fw.f rfl (Fv rfl rfl underlying3 underlying243 (IntWalk.u8_in _ om)) ?_
 refine Jz 8 ?_
 refine Ka [0] rfl rfl rfl rfl .fc rfl ((ih x (mog hx)).1 x.At x.qt hxt hxtl) rfl ?_
 rintro _ _ ⟨At2,qt2,t2,rfl,rfl,ht2⟩
 refine⟨ocs (oca 3 rfl) (ocn _),?_⟩
 refine Fw.mk rfl rfl rfl rfl rfl (Mk.alloc rfl WV) ?_
 rintro _ _ ⟨b6,rfl,rfl⟩
 refine Ka [2] rfl rfl rfl rfl .fc rfl ((ih x (mog hx)).2 x.Ae x.qe hxn hxnl) rfl ?_
 rintro _ _ ⟨Ae2,qe2,e2,rfl,rfl,he2⟩
 refine⟨ocs (oca 4 rfl) (ocn _),?_⟩
 refine Fw.f rfl (.bd [.int .u8 ((x.kind:Nat):Int), .string x.name, .string x.hand,nz,vs At2 t2 qt2,vs Ae2 e2 qe2]) ?_
 refine Fw.up rfl rfl rfl (Bl (i:=1) rfl rfl rfl WU rfl rfl rfl (bta rfl)) (ocs (oca 4 rfl) (ocn _)) ?_
 refine Jz 2 ?_
 refine Lv (b6,At2,qt2,t2,Ae2,qe2,e2) ⟨ht2,he2⟩
 refine Lc [box b5 (encS x) 217] [0,1,2,3,4,5,6,7,8,10,11,214,15509,512,13,515] (ocs (oca 3 rfl) (ocn _)) ?_
 refine Jz 2 ?_
 refine Fw.f rfl (Fv rfl rfl underlying3 underlying243 (IntWalk.u8_in _ om)) ?_
 refine Jz 8 ?_
 refine Fw.mk rfl rfl rfl rfl rfl (Mk.alloc rfl WV) ?_
 rintro _ _ ⟨b6,rfl,rfl⟩
 refine Ka [1] rfl rfl rfl rfl .fc rfl ((ih x (mog hx)).1 x.At x.qt hxt hxtl) rfl ?_
 rintro _ _ ⟨At2,qt2,t2,rfl,rfl,ht2⟩
 refine⟨ocs (oca 4 rfl) (ocn _),?_⟩
 refine Ka [2] rfl rfl rfl rfl .fc rfl ((ih x (mog hx)).2 x.Ae x.qe hxn hxnl) rfl ?_
 rintro _ _ ⟨Ae2,qe2,e2,rfl,rfl,he2⟩
 refine⟨ocs (oca 4 rfl) (ocn _),?_⟩
 refine Fw.f rfl (.bd [.int .u8 ((x.kind:Nat):Int), .string x.name, .string x.hand,nz,vs At2 t2 qt2,vs Ae2 e2 qe2]) ?_
 refine Fw.up rfl rfl rfl (Bl (i:=2) rfl rfl rfl WU rfl rfl rfl (bta rfl)) (ocs (oca 4 rfl) (ocn _)) ?_
 refine Jz 2 ?_
 refine Lv (b6,At2,qt2,t2,Ae2,qe2,e2) ⟨ht2,he2⟩
 rintro⟨b6,At2,qt2,t2,Ae2,qe2,e2⟩ ⟨ht2,he2⟩
 replace ht2:Ba t2=Ba x.thn:=ht2
 replace he2:Ba e2=Ba x.els:=he2
 dsimp only
 refine Js (Js (To.one 8 rfl (ros Dk x.A x.exprs) rfl (aEd ..) (Jz 8 ?_)))
 refine Cz (Bw) 249 4 (VH Bw (Cw (fun s g mz ρ Γ=>∃(Ax:OA) (qx:Nat) (X:List Ex) (j:Nat),ρ=[s 3,s 9,s 10,s 11,s 6,s 30,s 31,(32,nv j)]∧Γ=[g 3,g 4,g 5,g 6,g 9,g 10,g 11,g 2,box b6 [.int .u8 ((x.kind:Nat):Int), .string x.name, .string x.hand,vs Ax X qx,vs At2 t2 qt2,vs Ae2 e2 qe2] 246,rows Bw 249 4 Ax qx X,all (El Bw X)]∧mz=x.exprs.length-j∧(j≤x.exprs.length)∧(Cv X=Cv (x.exprs.take j))) ⟨⟨none,0,([]:List Ex),0,rfl,rfl,rfl,om,rfl⟩,sb⟩ ?_))
 rintro mz _ _ ⟨Ax,qx,X,j,rfl,rfl,rfl,hj,hX⟩
 have hXl:X.length≤4:=by
  have h:=congrArg List.length hX
  rw[Bz,aEg,Bz,aEg,aEe]at h
  omega
 refine Jz 6 ?_
 refine Jcp rfl ?_ ?_<;>intro c33
 obtain⟨y,hy⟩:=exg x.exprs j om
 refine Jz 8 ?_
 refine Jal fun b8=>?_
 refine Jz 3 ?_
 refine Db 7 rfl (y.kids Dk) (Ex.lax Dk y) (Yo hy) (Ki (tel []) mixed.h (Hy 1 3 rfl (by kernel_rfl) ?_ ?_))
 refine Lc [box b8 (Dk y) 220] [0,2,503,101,204,5505,6,507] (ocs (oca 1 rfl) (ocn _)) ?_
 refine Jz 2 ?_
 refine Da [0] (jU y (Ob hxl (mog hy))) ?_
 rintro _ _ ⟨y2,rfl,rfl,hy2⟩
 refine⟨ocs (oca 1 rfl) (ocn _),?_⟩
 refine Jz 1 ?_
 refine Es (Bw y2) fun b40=>?_
 refine Fw.ge rfl rfl rfl rfl (Bg Hw (i:=12) (j:=0) (el:=y2) rfl QM rfl rfl rfl rfl rfl om om) ?_
 rintro _ _ ⟨A41,q41,rfl,rfl⟩
 refine⟨ocs (oca 2 rfl) (ocn _),?_⟩
 refine Jz 1 ?_
 refine Fw.up rfl rfl rfl (Up.store (i:=11) rfl rfl rfl Xk rfl rfl (bt1 rfl)) (ocs (oca 2 rfl) (ocn _)) ?_
 refine Jz 3 ?_
 refine zM (Jj (qK X y2 (Jz 5 ?_)))
 refine Cg ⟨⟨A41,q41,(X++[y2]),j+1,rfl,rfl,rfl,om,(by rw[Bz,aEq,←Bz,hX,Cf hy,Bz,Bz,aEq];show _++[y2.pure]=_++[y.pure];rw[hy2])⟩,sb⟩
 refine Lc [box b8 (Dk y) 220] [0,2,101,503,204,5505,6,507] (ocs (oca 1 rfl) (ocn _)) ?_
 refine Jz 3 ?_
 refine Da [0] (jU y (Ob hxl (mog hy))) ?_
 rintro _ _ ⟨y2,rfl,rfl,hy2⟩
 refine⟨ocs (oca 1 rfl) (ocn _),?_⟩
 refine Es (Bw y2) fun b40=>?_
 refine Fw.ge rfl rfl rfl rfl (Bg Hw (i:=12) (j:=0) (el:=y2) rfl QM rfl rfl rfl rfl rfl om om) ?_
 rintro _ _ ⟨A41,q41,rfl,rfl⟩
 refine⟨ocs (oca 2 rfl) (ocn _),?_⟩
 refine Jz 1 ?_
 refine Fw.up rfl rfl rfl (Up.store (i:=11) rfl rfl rfl Xk rfl rfl (bt1 rfl)) (ocs (oca 2 rfl) (ocn _)) ?_
 refine Jz 3 ?_
 refine zM (Jj (qK X y2 (Jz 5 ?_)))
 refine Cg ⟨⟨A41,q41,(X++[y2]),j+1,rfl,rfl,rfl,om,(by rw[Bz,aEq,←Bz,hX,Cf hy,Bz,Bz,aEq];show _++[y2.pure]=_++[y.pure];rw[hy2])⟩,sb⟩
 refine Jz 8 ?_
 refine Eg [.int .u8 ((x.kind:Nat):Int), .string x.name, .string x.hand,vs Ax X qx,vs At2 t2 qt2,vs Ae2 e2 qe2] fun b46=>?_
 refine Jge rfl rfl rfl (Bg Jh (i:=3) (j:=0) (el:=(⟨x.kind,x.name,x.hand,Ax,qx,X,At2,qt2,t2,Ae2,qe2,e2⟩:St)) rfl aDe rfl rfl rfl rfl rfl om om) ?_
 rintro _ _ ⟨A47,q47,rfl,rfl⟩
 refine Jz 4 ?_
 refine Pq (Pq (VG X (Cj (Cj (Jj (XN (⟨x.kind,x.name,x.hand,Ax,qx,X,At2,qt2,t2,Ae2,qe2,e2⟩:St) (Nz (Le (ME O (⟨x.kind,x.name,x.hand,Ax,qx,X,At2,qt2,t2,Ae2,qe2,e2⟩:St) (Jz 5 ?_))))))))))
 refine Cg ⟨⟨A47,q47,(O++[(⟨x.kind,x.name,x.hand,Ax,qx,X,At2,qt2,t2,Ae2,qe2,e2⟩:St)]),k+1,rfl,rfl,rfl,om,(by rw[Je,aEq,←Je,hO,Cf hx,Je,Je,aEq];show _++[(⟨x.kind,x.name,x.hand,Cv X,Ba t2,Ba e2⟩:PS)]=_++[x.pure];rw[hX,aEm (l:=x.exprs) om,ht2,he2,←Nh x])⟩,sb⟩
 refine Jz 12 ?_
 refine Ic (Ic (SA O (Cu (Df (Je1 results56 ?_)))))
 exact⟨Ao,qo,O,rfl,rfl,by rw[hO,aEm om]⟩
theorem aL:∀l:List St,∀(A:OA) (q:Nat),l.length≤12→Dy (Ba l)→Dz 56 [vs A l q] [all (lsG Dk encS A l)] (Yq l)
 |l,A,q,h1,h2=>xS l (fun x hx=>⟨aL x.thn,aL x.els⟩) A q h1 h2
termination_by l=>SizeOf.sizeOf l
decreasing_by
 all_goals
  have h:=aFq hx
  have:SizeOf.sizeOf x.thn<SizeOf.sizeOf x∧SizeOf.sizeOf x.els<SizeOf.sizeOf x:=by cases x;simp only[St.mk.sizeOf_spec];omega
  omega
end Go.Proofs.YtlihklladkagpaaGreatDoor

/- Own text. -/
import Derived.Test.YtlihklladkagpaaGreatDoorHa
import Derived.Test.YtlihklladkagpaaGreatDoorBb
set_option maxHeartbeats 8000000
set_option maxRecDepth 100000
set_option linter.unusedVariables false
set_option linter.unusedSimpArgs false
namespace Go.Proofs.YtlihklladkagpaaGreatDoor
open Go.RowKit Go.Flow Go.Mem Go.Sep Go.In
def lsF(f:Ex→List Value)(A:OA)(l:List Ex):List Ai:=ros f A l::El f l
def lsG(f:Ex→List Value)(g:St→List Value)(A:OA)(l:List St):List Ai:=ros g A l::Ez f g l
theorem xO(f:Ex→List Value)(O:List Ex)(e:Ex):El f (O++[e])=El f O++e.kids f:=by
 rw[Nc,Nc,aFe]
 show _++(e.kids f++[])=_
 rw[aEz]
theorem xP(f:Ex→List Value)(g:St→List Value)(O:List St)(e:St):Ez f g (O++[e])=Ez f g O++e.kids f g:=by
 rw[Pi,Pi,aFe]
 show _++(e.kids f g++[])=_
 rw[aEz]
section
variable{C:Cx}{ρ:Cb}{Γ:List Ai}{K:Act→World→Prop}{A:OA}{ty:TypeId}{q:Nat}
theorem qK{f:Ex→List Value}(O:List Ex)(e:Ex)(k:To C ρ (all (El f (O++[e]))::Γ) K):To C ρ (all (e.kids f)::all (El f O)::Γ) K:=
 To.perm (aFc _ _ _) (Kq (by rw[←xO];exact k))
theorem ME{f:Ex→List Value}{g:St→List Value}(O:List St)(e:St)(k:To C ρ (all (Ez f g (O++[e]))::Γ) K):To C ρ (all (e.kids f g)::all (Ez f g O)::Γ) K:=
 To.perm (aFc _ _ _) (Kq (by rw[←xP];exact k))
theorem VG{f:Ex→List Value}{z:Nat}(l:List Ex)(k:To C ρ (all (lsF f A l)::Γ) K):To C ρ (rows f ty z A q l::all (El f l)::Γ) K:=Cq (Dn k)
theorem SA{f:Ex→List Value}{g:St→List Value}{z:Nat}(l:List St)(k:To C ρ (all (lsG f g A l)::Γ) K):To C ρ (rows g ty z A q l::all (Ez f g l)::Γ) K:=Cq (Dn k)
theorem VH(f:Ex→List Value)(k:To C ρ (all (El f [])::Γ) K):To C ρ Γ K:=Ko k
theorem SB(f:Ex→List Value)(g:St→List Value)(k:To C ρ (all (Ez f g [])::Γ) K):To C ρ Γ K:=Ko k
theorem XN{f:Ex→List Value}{g:St→List Value}(s:St)(k:To C ρ (all (s.kids f g)::Γ) K):To C ρ (all (lsF f s.A s.exprs)::all (lsG f g s.At s.thn)::all (lsG f g s.Ae s.els)::Γ) K:=by
 refine To.perm (Γ':=all (lsG f g s.At s.thn)::all (lsG f g s.Ae s.els)::all (lsF f s.A s.exprs)::Γ) ?_ (Kq (To.perm (aFc _ _ _) (Kq ?_)))
 ·exact(List.Perm.trans (List.Perm.cons _ (aFc _ _ _)) (aFc _ _ _)).symm
 ·rw[Rz]at k;exact k
end
theorem Re{f:Ex→List Value}(e:Ex):ros f e.A e.args∈e.kids f:=by rw[Lg];exact aEd ..
theorem Sz{f:Ex→List Value}{e x:Ex}{j:Nat}(h:e.args[j]?=some x):∀c∈x.kids f,c∈e.kids f:=fun c hc=>by
 rw[Lg,Nc]
 exact aEb _ (aEy.2 ⟨x,mog h,hc⟩)
theorem Yo{f:Ex→List Value}{A:OA}{l:List Ex}{x:Ex}{j:Nat}(h:l[j]?=some x):∀c∈x.kids f,c∈lsF f A l:=fun c hc=>by
 show c∈_::El f l
 rw[Nc]
 exact aEb _ (aEy.2 ⟨x,mog h,hc⟩)
theorem Kw{f:Ex→List Value}{g:St→List Value}{A:OA}{l:List St}{x:St}{j:Nat}(h:l[j]?=some x):∀c∈x.kids f g,c∈lsG f g A l:=fun c hc=>by
 show c∈_::Ez f g l
 rw[Pi]
 exact aEb _ (aEy.2 ⟨x,mog h,hc⟩)
theorem Ll{f:Ex→List Value}{g:St→List Value}(s:St):∀c∈lsF f s.A s.exprs,c∈s.kids f g:=fun c hc=>by rw[Rz];exact aGo _ hc
theorem Kj{f:Ex→List Value}{g:St→List Value}(s:St):∀c∈lsG f g s.At s.thn,c∈s.kids f g:=fun c hc=>by rw[Rz];exact aGf _ (aGo _ hc)
theorem Ji{f:Ex→List Value}{g:St→List Value}(s:St):∀c∈lsG f g s.Ae s.els,c∈s.kids f g:=fun c hc=>by rw[Rz];exact aGf _ (aGf _ hc)
theorem Ma(f:Ex→List Value)(A:OA)(l:List Ex):Lax (lsF f A l):=Lax.cons rfl (fC f l)
theorem Dx(f:Ex→List Value)(g:St→List Value)(A:OA)(l:List St):Lax (lsG f g A l):=Lax.cons rfl (aD f g l)
mutual
def PE.low:PE→Prop
 |⟨o,_,_,l⟩=>o≤23∧l.length≤2∧Kk l
def Kk:List PE→Prop
 |[]=>True
 |e::r=>PE.low e∧Kk r
end
mutual
def PS.low:PS→Prop
 |⟨k,_,_,es,t,e⟩=>k≤10∧es.length≤4∧Kk es∧(t.length≤12∧Dy t)∧e.length≤12∧Dy e
def Dy:List PS→Prop
 |[]=>True
 |e::r=>PS.low e∧Dy r
end
theorem Wi:∀{l:List PE},Kk l→∀x∈l,x.low
 |[],_,x,h=>by cases h
 | e::r,h,x,hx=>by
   rcases aEi.1 hx with rfl|hx
   ·exact h.1
   ·exact Wi h.2 x hx
theorem Un:∀{l:List PE},(∀x∈l,x.low)→Kk l
 |[],_=>trivial
 |e::r,h=>⟨h e (aEd ..),Un fun x hx=>h x (aEb _ hx)⟩
theorem dP:∀{l:List PS},Dy l→∀x∈l,x.low
 |[],_,x,h=>by cases h
 | e::r,h,x,hx=>by
   rcases aEi.1 hx with rfl|hx
   ·exact h.1
   ·exact dP h.2 x hx
theorem Yp:∀{l:List PS},(∀x∈l,x.low)→Dy l
 |[],_=>trivial
 |e::r,h=>⟨h e (aEd ..),Yp fun x hx=>h x (aEb _ hx)⟩
theorem Qf{e x:Ex}(h:e.pure.low)(hx:x∈e.args):x.pure.low:=by
 rw[Fu]at h
 refine Wi h.2.2 x.pure ?_
 rw[Bz];exact aEv.2 ⟨x,hx,rfl⟩
theorem Tw{e:Ex}(h:e.pure.low):e.op≤23∧e.args.length≤2:=by
 rw[Fu]at h
 refine⟨h.1,?_⟩
 have:=h.2.1
 rwa[Bz,aEg]at this
theorem Ob{l:List Ex}(h:Kk (Cv l)){x:Ex}(hx:x∈l):x.pure.low:=Wi h x.pure (by rw[Bz];exact aEv.2 ⟨x,hx,rfl⟩)
theorem Oc{l:List St}(h:Dy (Ba l)){x:St}(hx:x∈l):x.pure.low:=dP h x.pure (by rw[Je];exact aEv.2 ⟨x,hx,rfl⟩)
theorem Qg{s:St}(h:s.pure.low):s.kind≤10∧(s.exprs.length≤4∧Kk (Cv s.exprs))∧(s.thn.length≤12∧Dy (Ba s.thn))∧s.els.length≤12∧Dy (Ba s.els):=by
 rw[Nh]at h
 obtain⟨h1,h2,h3,⟨h4,h5⟩,h6,h7⟩:=h
 rw[Bz,aEg]at h2
 rw[Je,aEg]at h4 h6
 exact⟨h1,⟨h2,h3⟩,⟨h4,h5⟩,h6,h7⟩
section
variable{c:Ct}{np:Nat}
theorem Kh.low{d:Nat}{e:PE}(h:Kh c np d e):e.low:=by
 induction h with
 |num d n h=>exact⟨show 1≤23 by decide,aEw _,trivial⟩
 |var d k h=>exact⟨show 5≤23 by decide,aEw _,trivial⟩
 |par d k h=>exact⟨show 5≤23 by decide,aEw _,trivial⟩
 |now d=>exact⟨show 4≤23 by decide,aEw _,trivial⟩
 |get d e ht h ih=>exact⟨show 6≤23 by decide,show 1≤2 by decide,ih,trivial⟩
 |size d ht=>exact⟨show 8≤23 by decide,aEw _,trivial⟩
 |neg d e h ih=>exact⟨show 9≤23 by decide,show 1≤2 by decide,ih,trivial⟩
 |bin d op a b ho ha hb iha ihb=>exact⟨show op≤23 by omega,aEu 2,iha,ihb,trivial⟩
theorem Pj.low{d:Nat}{e:PE}(h:Pj c np d e):e.low:=by
 induction h with
 |tf d op h=>exact⟨show op≤23 by omega,aEw _,trivial⟩
 |b0 d=>exact⟨show 5≤23 by decide,aEw _,trivial⟩
 |flag d k h=>exact⟨show 5≤23 by decide,aEw _,trivial⟩
 |has d e ht h=>exact⟨show 7≤23 by decide,show 1≤2 by decide,h.low,trivial⟩
 |not d e h ih=>exact⟨show 10≤23 by decide,show 1≤2 by decide,ih,trivial⟩
 |two d op a b ho ha hb iha ihb=>exact⟨show op≤23 by omega,aEu 2,iha,ihb,trivial⟩
 |cmp d op a b ho ha hb=>exact⟨show op≤23 by omega,aEu 2,ha.low,hb.low,trivial⟩
theorem xQ:∀l:List PS,l.length≤Ca l
 |[]=>aEu _
 | s::r=>by
   have:=xQ r
   show r.length+1≤PS.cnt s+Ca r
   have h1:1≤PS.cnt s:=by cases s;show 1≤1+_+_;omega
   omega
theorem fH{s:PS}:∀{l:List PS},s∈l→PS.cnt s≤Ca l
 | a::r,h=>by
   show PS.cnt s≤PS.cnt a+Ca r
   rcases aEi.1 h with rfl|h
   ·omega
   ·have:=fH h;omega
theorem StE.low(ok:c.Ok){d:Nat}{s:PS}(h:StE c np d s):PS.cnt s≤12→s.low:=by
 have nl:Dy []:=trivial
 have len {l:List PS} (h:Ca l≤12):l.length≤12:=aGd (xQ l) h
 have all {l:List PS} (h:Ca l≤12) (ih:∀s∈l,PS.cnt s≤12→s.low):Dy l:=Yp fun x hx=>ih x hx (aGd (fH hx) h)
 have par {to h n:Nat} {ar:List Nat} (ha:c.ars[to]?=some ar) (hh:ar[h]?=some n):n≤2:=(ok.each ar (mog ha)).2.2 n (mog hh)
 induction h with
 |setB d e h=>exact fun _=>⟨show 1≤10 by decide,show 1≤4 by decide,⟨h.low,trivial⟩,⟨aEw _,nl⟩,aEw _,nl⟩
 |setX d k e hk h=>exact fun _=>⟨show 1≤10 by decide,show 1≤4 by decide,⟨h.low,trivial⟩,⟨aEw _,nl⟩,aEw _,nl⟩
 |put d a b ht ha hb=>exact fun _=>⟨show 2≤10 by decide,show 2≤4 by decide,⟨ha.low,hb.low,trivial⟩,⟨aEw _,nl⟩,aEw _,nl⟩
 |del d a ht ha=>exact fun _=>⟨show 3≤10 by decide,show 1≤4 by decide,⟨ha.low,trivial⟩,⟨aEw _,nl⟩,aEw _,nl⟩
 | ife d e t l h ht hl iht ihl=>
   intro hc
   have hc:1+Ca t+Ca l≤12:=hc
   exact⟨show 4≤10 by decide,show 1≤4 by decide,⟨h.low,trivial⟩,⟨len om,all om iht⟩,len om,all om ihl⟩
 | whl d e t h ht iht=>
   intro hc
   have hc:1+Ca t+Ca []≤12:=hc
   exact⟨show 5≤10 by decide,show 1≤4 by decide,⟨h.low,trivial⟩,⟨len om,all om iht⟩,aEw _,nl⟩
 | send d to h ar l ha hh hl=>
   have:=par ha hh
   exact fun _=>⟨show 6≤10 by decide,show l.length≤4 by omega,Un fun x hx=>(hl x hx).low,⟨aEw _,nl⟩,aEw _,nl⟩
 | after d h ar e l ha hh he hl=>
   have:=par ha hh
   exact fun _=>⟨show 7≤10 by decide,show l.length+1≤4 by omega,⟨he.low,Un fun x hx=>(hl x hx).low⟩,⟨aEw _,nl⟩,aEw _,nl⟩
 | store d a b l ha hb hl ihl=>
   intro hc
   have hc:1+Ca []+Ca l≤12:=hc
   exact⟨show 8≤10 by decide,show 2≤4 by decide,⟨ha.low,hb.low,trivial⟩,⟨aEw _,nl⟩,len om,all om ihl⟩
 | fetch d k e l hk h hl ihl=>
   intro hc
   have hc:1+Ca []+Ca l≤12:=hc
   exact⟨show 9≤10 by decide,show 1≤4 by decide,⟨h.low,trivial⟩,⟨aEw _,nl⟩,len om,all om ihl⟩
 |stop d=>exact fun _=>⟨show 10≤10 by decide,aEw _,trivial,⟨aEw _,nl⟩,aEw _,nl⟩
end
theorem xR(e:Ex)(hlow:e.pure.low)(ih:∀x∈e.args,x.pure.low→aMa Tryz.prog 95 [.agg (Dk x).toArray] [all (x.kids Dk)] (fun v Γ'=>∃e':Ex,v= .agg (Bw e').toArray∧Γ'=[all (e'.kids Bw)]∧e'.pure=x.pure)):
    aMa Tryz.prog 95 [.agg (Dk e).toArray] [all (e.kids Dk)] (fun v Γ'=>∃e':Ex,v= .agg (Bw e').toArray∧Γ'=[all (e'.kids Bw)]∧e'.pure=e.pure):=by
 obtain⟨hop,hal⟩:=Tw hlow
 refine Am Tryz.func95 Tryz.ntmps95 fun w0=>?_
 refine Js (To.g (Jbo fun b1=>?_))
 refine Jal fun b2=>?_
 refine Jz 6 ?_
 refine Jr (Fv rfl rfl Tryz.underlying3 Tryz.underlying247 (IntWalk.u8_in _ om)) ?_
 refine Jz 4 ?_
 refine Jr (.bd [.int .u8 ((e.op:Nat):Int), .string e.name,iv e.n,nz]) ?_
 refine Jal fun b3=>?_
 refine Jz 5 ?_
 refine To.one 3 rfl (ros Dk e.A e.args) rfl (Re e) (Jz 8 ?_)
 refine Cz (Bw) 249 4 (VH Bw (Cw (fun s g mz ρ Γ=>∃(Ao:OA) (qo:Nat) (O:List Ex) (k:Nat),ρ=[s 2,s 3,s 15,s 16,(17,nv k)]∧Γ=[g 4,box b3 [.int .u8 ((e.op:Nat):Int), .string e.name,iv e.n,vs Ao O qo] 249,g 2,g 6,rows Bw 249 4 Ao qo O,all (El Bw O)]∧mz=e.args.length-k∧(k≤e.args.length)∧(Cv O=Cv (e.args.take k))) ⟨⟨none,0,([]:List Ex),0,rfl,rfl,rfl,om,rfl⟩,sb⟩ ?_))
 rintro mz _ _ ⟨Ao,qo,O,k,rfl,rfl,rfl,hk,hO⟩
 have hOl:O.length≤2:=by
  have h:=congrArg List.length hO
  rw[Bz,aEg,Bz,aEg,aEe]at h
  omega
 refine Jz 6 ?_
 refine Jcp rfl ?_ ?_<;>intro c18
 obtain⟨x,hx⟩:=exg e.args k om
 refine Jz 8 ?_
 refine Jal fun b5=>?_
 refine Jz 3 ?_
 refine Db 4 rfl (x.kids Dk) (Ex.lax Dk x) (Sz hx) (Ki (tel []) mixed.h (Hy 1 3 rfl (by kernel_rfl) ?_ ?_))
 refine Lc [box b5 (Dk x) 220] [0,2,503,101,204,5505,6,507] (ocs (oca 1 rfl) (ocn _)) ?_
 refine Jz 2 ?_
 refine Da [0] (ih x (mog hx) (Qf hlow (mog hx))) ?_
 rintro _ _ ⟨e2,rfl,rfl,he2⟩
 refine⟨ocs (oca 1 rfl) (ocn _),?_⟩
 refine Jz 1 ?_
 refine Es (Bw e2) fun b25=>?_
 refine Fw.ge rfl rfl rfl rfl (Bg Hw (i:=7) (j:=0) (el:=e2) rfl QM rfl rfl rfl rfl rfl om om) ?_
 rintro _ _ ⟨A26,q26,rfl,rfl⟩
 refine⟨ocs (oca 2 rfl) (ocn _),?_⟩
 refine Jz 1 ?_
 refine Fw.up rfl rfl rfl (Up.store (i:=4) rfl rfl rfl Xk rfl rfl (bt1 rfl)) (ocs (oca 2 rfl) (ocn _)) ?_
 refine Jz 3 ?_
 refine JF (Jj (qK O e2 (Jz 5 ?_)))
 refine Cg ⟨⟨A26,q26,(O++[e2]),k+1,rfl,rfl,rfl,om,(by rw[Bz,aEq,←Bz,hO,Cf hx,Bz,Bz,aEq];show _++[e2.pure]=_++[x.pure];rw[he2])⟩,sb⟩
 refine Lc [box b5 (Dk x) 220] [0,2,101,503,204,5505,6,507] (ocs (oca 1 rfl) (ocn _)) ?_
 refine Jz 3 ?_
 refine Da [0] (ih x (mog hx) (Qf hlow (mog hx))) ?_
 rintro _ _ ⟨e2_2,rfl,rfl,he2_2⟩
 refine⟨ocs (oca 1 rfl) (ocn _),?_⟩
 refine Es (Bw e2_2) fun b25_2=>?_
 refine Fw.ge rfl rfl rfl rfl (Bg Hw (i:=7) (j:=0) (el:=e2_2) rfl QM rfl rfl rfl rfl rfl om om) ?_
 rintro _ _ ⟨A26_2,q26_2,rfl,rfl⟩
 refine⟨ocs (oca 2 rfl) (ocn _),?_⟩
 refine Jz 1 ?_
 refine Fw.up rfl rfl rfl (Up.store (i:=4) rfl rfl rfl Xk rfl rfl (bt1 rfl)) (ocs (oca 2 rfl) (ocn _)) ?_
 refine Jz 3 ?_
 refine JF (Jj (qK O e2_2 (Jz 5 ?_)))
 refine Cg ⟨⟨A26_2,q26_2,(O++[e2_2]),k+1,rfl,rfl,rfl,om,(by rw[Bz,aEq,←Bz,hO,Cf hx,Bz,Bz,aEq];show _++[e2_2.pure]=_++[x.pure];rw[he2_2])⟩,sb⟩
 refine Jz 12 ?_
 refine Nz (Nz (VG O (Gf [0] Tryz.results95 ?_)))
 exact⟨(⟨e.op,e.name,e.n,Ao,qo,O⟩:Ex),rfl,rfl,by rw[Fu e];show(⟨e.op,e.name,e.n,Cv O⟩:PE)=_;rw[hO,aEm om]⟩
theorem jU:∀e:Ex,e.pure.low→aMa Tryz.prog 95 [.agg (Dk e).toArray] [all (e.kids Dk)] (fun v Γ'=>∃e':Ex,v= .agg (Bw e').toArray∧Γ'=[all (e'.kids Bw)]∧e'.pure=e.pure)
 |e,h=>xR e h (fun x hx=>jU x)
termination_by e=>SizeOf.sizeOf e
decreasing_by
 cases e with
 | mk op s n A q l=>
   have:=aFq (show x∈l from hx)
   simp only[Ex.mk.sizeOf_spec]
   omega
def Yq(l:List St):Value→List Ai→Prop:=fun v Γ'=>∃(A':OA) (q':Nat) (l':List St),v=vs A' l' q'∧Γ'=[all (lsG Bw Dh A' l')]∧Ba l'=Ba l
theorem xS(l:List St)(ih:∀x∈l,(∀(A:OA) (q:Nat),x.thn.length≤12→Dy (Ba x.thn)→aMa Tryz.prog 56 [vs A x.thn q] [all (lsG Dk aMc A x.thn)] (Yq x.thn))∧(∀(A:OA) (q:Nat),x.els.length≤12→Dy (Ba x.els)→aMa Tryz.prog 56 [vs A x.els q] [all (lsG Dk aMc A x.els)] (Yq x.els)))(A:OA)(q:Nat)(hl:l.length≤12)(hlow:Dy (Ba l)):
    aMa Tryz.prog 56 [vs A l q] [all (lsG Dk aMc A l)] (Yq l):=by
 refine Am Tryz.func56 Tryz.ntmps56 fun w0=>?_
 refine Jz 12 ?_
 refine To.one 0 rfl (ros aMc A l) rfl (aEd ..) (Jz 7 ?_)
 refine Cz (Dh) 246 6 (SB Bw Dh (Cw (fun s g mz ρ Γ=>∃(Ao:OA) (qo:Nat) (O:List St) (k:Nat),ρ=[(3,vs Ao O qo),s 9,s 10,(11,nv k)]∧Γ=[g 2,g 3,rows Dh 246 6 Ao qo O,all (Ez Bw Dh O)]∧mz=l.length-k∧(k≤l.length)∧(Ba O=Ba (l.take k))) ⟨⟨none,0,([]:List St),0,rfl,rfl,rfl,om,rfl⟩,sb⟩ ?_))
 rintro mz _ _ ⟨Ao,qo,O,k,rfl,rfl,rfl,hk,hO⟩
 have hOl:O.length≤12:=by
  have h:=congrArg List.length hO
  rw[Je,aEg,Je,aEg,aEe]at h
  omega
 refine Jz 6 ?_
 refine Jcp rfl ?_ ?_<;>intro c12
 obtain⟨x,hx⟩:=exg l k om
 obtain⟨hxk,⟨hxe,hxl⟩,⟨hxt,hxtl⟩,hxn,hxnl⟩:=Qg (Oc hlow (mog hx))
 refine Jz 8 ?_
 refine Jal fun b5=>?_
 refine Jz 4 ?_
 refine Db 2 rfl (lsF Dk x.A x.exprs) (Ma _ _ _) (fun c hc=>Kw hx c (Ll x c hc)) (Db 3 rfl (lsG Dk aMc x.Ae x.els) (Dx _ _ _ _) (fun c hc=>Kw hx c (Ji x c hc)) (Db 4 rfl (lsG Dk aMc x.At x.thn) (Dx _ _ _ _) (fun c hc=>Kw hx c (Kj x c hc)) (Ru (T:=(Nat)×(OA)×(Nat)×(List St)×(OA)×(Nat)×(List St)) (fun t=>([(3,vs Ao O qo),(9,vs A l q),(10,nv l.length),(11,nv k),(5,pv b5),(6, .pointer (some ⟨(t.1),0,none⟩))],[ros aMc A l,all (lsG Dk aMc A l),rows Dh 246 6 Ao qo O,all (Ez Bw Dh O),box b5 (aMc x) 217,box (t.1) [.int .u8 ((x.kind:Nat):Int), .string x.name, .string x.hand,nz, .slice (t.2.1) (t.2.2.2.1).length (t.2.2.1), .slice (t.2.2.2.2.1) (t.2.2.2.2.2.2).length (t.2.2.2.2.2.1)] 246,all (lsG Bw Dh (t.2.1) (t.2.2.2.1)),all (lsG Bw Dh (t.2.2.2.2.1) (t.2.2.2.2.2.2)),all (lsF Dk x.A x.exprs)])) (fun t=>(Ba (t.2.2.2.1)=Ba x.thn)∧(Ba (t.2.2.2.2.2.2)=Ba x.els)) ?_ ?_)))
 refine Ki (VY (tel []) (PT [(9,[all (lsG Dk aMc x.At x.thn)],(Yq x.thn)),(12,[all (lsG Dk aMc x.Ae x.els)],(Yq x.els))])) mixed.h (Hy 14 9 rfl (by kernel_rfl) ?_ ?_)
 refine Hy 14 12 rfl (by kernel_rfl) ?_ ?_
 refine Lc [box b5 (aMc x) 217] [0,1,2,3,4,5,6,7,8,10,11,509,512,13,214,15515] (ocs (oca 3 rfl) (ocn _)) ?_
 refine Jz 2 ?_
 refine Fw.f rfl (Fv rfl rfl Tryz.underlying3 Tryz.underlying243 (IntWalk.u8_in _ om)) ?_
 refine Jz 8 ?_
 refine Ka [0] rfl rfl rfl rfl .fc rfl ((ih x (mog hx)).1 x.At x.qt hxt hxtl) rfl ?_
 rintro _ _ ⟨At2,qt2,t2,rfl,rfl,ht2⟩
 refine⟨ocs (oca 3 rfl) (ocn _),?_⟩
 refine Ka [1] rfl rfl rfl rfl .fc rfl ((ih x (mog hx)).2 x.Ae x.qe hxn hxnl) rfl ?_
 rintro _ _ ⟨Ae2,qe2,e2,rfl,rfl,he2⟩
 refine⟨ocs (oca 3 rfl) (ocn _),?_⟩
 refine Fw.f rfl (.bd [.int .u8 ((x.kind:Nat):Int), .string x.name, .string x.hand,nz,vs At2 t2 qt2,vs Ae2 e2 qe2]) ?_
 refine Fw.mk rfl rfl rfl rfl rfl (Mk.alloc rfl WV) ?_
 rintro _ _ ⟨b6,rfl,rfl⟩
 refine Fw.up rfl rfl rfl (Bl (i:=0) rfl rfl rfl WU rfl rfl rfl (bta rfl)) (ocs (oca 4 rfl) (ocn _)) ?_
 refine Jz 2 ?_
 refine Lv (b6,At2,qt2,t2,Ae2,qe2,e2) ⟨ht2,he2⟩
 refine Lc [box b5 (aMc x) 217] [0,1,2,3,4,5,6,7,8,10,11,509,214,15512,13,515] (ocs (oca 3 rfl) (ocn _)) ?_
 refine Jz 2 ?_
 refine Fw.f rfl (Fv rfl rfl Tryz.underlying3 Tryz.underlying243 (IntWalk.u8_in _ om)) ?_
 refine Jz 8 ?_
 refine Ka [0] rfl rfl rfl rfl .fc rfl ((ih x (mog hx)).1 x.At x.qt hxt hxtl) rfl ?_
 rintro _ _ ⟨At2,qt2,t2,rfl,rfl,ht2⟩
 refine⟨ocs (oca 3 rfl) (ocn _),?_⟩
 refine Fw.mk rfl rfl rfl rfl rfl (Mk.alloc rfl WV) ?_
 rintro _ _ ⟨b6,rfl,rfl⟩
 refine Ka [2] rfl rfl rfl rfl .fc rfl ((ih x (mog hx)).2 x.Ae x.qe hxn hxnl) rfl ?_
 rintro _ _ ⟨Ae2,qe2,e2,rfl,rfl,he2⟩
 refine⟨ocs (oca 4 rfl) (ocn _),?_⟩
 refine Fw.f rfl (.bd [.int .u8 ((x.kind:Nat):Int), .string x.name, .string x.hand,nz,vs At2 t2 qt2,vs Ae2 e2 qe2]) ?_
 refine Fw.up rfl rfl rfl (Bl (i:=1) rfl rfl rfl WU rfl rfl rfl (bta rfl)) (ocs (oca 4 rfl) (ocn _)) ?_
 refine Jz 2 ?_
 refine Lv (b6,At2,qt2,t2,Ae2,qe2,e2) ⟨ht2,he2⟩
 refine Lc [box b5 (aMc x) 217] [0,1,2,3,4,5,6,7,8,10,11,214,15509,512,13,515] (ocs (oca 3 rfl) (ocn _)) ?_
 refine Jz 2 ?_
 refine Fw.f rfl (Fv rfl rfl Tryz.underlying3 Tryz.underlying243 (IntWalk.u8_in _ om)) ?_
 refine Jz 8 ?_
 refine Fw.mk rfl rfl rfl rfl rfl (Mk.alloc rfl WV) ?_
 rintro _ _ ⟨b6,rfl,rfl⟩
 refine Ka [1] rfl rfl rfl rfl .fc rfl ((ih x (mog hx)).1 x.At x.qt hxt hxtl) rfl ?_
 rintro _ _ ⟨At2,qt2,t2,rfl,rfl,ht2⟩
 refine⟨ocs (oca 4 rfl) (ocn _),?_⟩
 refine Ka [2] rfl rfl rfl rfl .fc rfl ((ih x (mog hx)).2 x.Ae x.qe hxn hxnl) rfl ?_
 rintro _ _ ⟨Ae2,qe2,e2,rfl,rfl,he2⟩
 refine⟨ocs (oca 4 rfl) (ocn _),?_⟩
 refine Fw.f rfl (.bd [.int .u8 ((x.kind:Nat):Int), .string x.name, .string x.hand,nz,vs At2 t2 qt2,vs Ae2 e2 qe2]) ?_
 refine Fw.up rfl rfl rfl (Bl (i:=2) rfl rfl rfl WU rfl rfl rfl (bta rfl)) (ocs (oca 4 rfl) (ocn _)) ?_
 refine Jz 2 ?_
 refine Lv (b6,At2,qt2,t2,Ae2,qe2,e2) ⟨ht2,he2⟩
 rintro⟨b6,At2,qt2,t2,Ae2,qe2,e2⟩ ⟨ht2,he2⟩
 replace ht2:Ba t2=Ba x.thn:=ht2
 replace he2:Ba e2=Ba x.els:=he2
 dsimp only
 refine Js (Js (To.one 8 rfl (ros Dk x.A x.exprs) rfl (aEd ..) (Jz 8 ?_)))
 refine Cz (Bw) 249 4 (VH Bw (Cw (fun s g mz ρ Γ=>∃(Ax:OA) (qx:Nat) (X:List Ex) (j:Nat),ρ=[s 3,s 9,s 10,s 11,s 6,s 30,s 31,(32,nv j)]∧Γ=[g 3,g 4,g 5,g 6,g 9,g 10,g 11,g 2,box b6 [.int .u8 ((x.kind:Nat):Int), .string x.name, .string x.hand,vs Ax X qx,vs At2 t2 qt2,vs Ae2 e2 qe2] 246,rows Bw 249 4 Ax qx X,all (El Bw X)]∧mz=x.exprs.length-j∧(j≤x.exprs.length)∧(Cv X=Cv (x.exprs.take j))) ⟨⟨none,0,([]:List Ex),0,rfl,rfl,rfl,om,rfl⟩,sb⟩ ?_))
 rintro mz _ _ ⟨Ax,qx,X,j,rfl,rfl,rfl,hj,hX⟩
 have hXl:X.length≤4:=by
  have h:=congrArg List.length hX
  rw[Bz,aEg,Bz,aEg,aEe]at h
  omega
 refine Jz 6 ?_
 refine Jcp rfl ?_ ?_<;>intro c33
 obtain⟨y,hy⟩:=exg x.exprs j om
 refine Jz 8 ?_
 refine Jal fun b8=>?_
 refine Jz 3 ?_
 refine Db 7 rfl (y.kids Dk) (Ex.lax Dk y) (Yo hy) (Ki (tel []) mixed.h (Hy 1 3 rfl (by kernel_rfl) ?_ ?_))
 refine Lc [box b8 (Dk y) 220] [0,2,503,101,204,5505,6,507] (ocs (oca 1 rfl) (ocn _)) ?_
 refine Jz 2 ?_
 refine Da [0] (jU y (Ob hxl (mog hy))) ?_
 rintro _ _ ⟨y2,rfl,rfl,hy2⟩
 refine⟨ocs (oca 1 rfl) (ocn _),?_⟩
 refine Jz 1 ?_
 refine Es (Bw y2) fun b40=>?_
 refine Fw.ge rfl rfl rfl rfl (Bg Hw (i:=12) (j:=0) (el:=y2) rfl QM rfl rfl rfl rfl rfl om om) ?_
 rintro _ _ ⟨A41,q41,rfl,rfl⟩
 refine⟨ocs (oca 2 rfl) (ocn _),?_⟩
 refine Jz 1 ?_
 refine Fw.up rfl rfl rfl (Up.store (i:=11) rfl rfl rfl Xk rfl rfl (bt1 rfl)) (ocs (oca 2 rfl) (ocn _)) ?_
 refine Jz 3 ?_
 refine zM (Jj (qK X y2 (Jz 5 ?_)))
 refine Cg ⟨⟨A41,q41,(X++[y2]),j+1,rfl,rfl,rfl,om,(by rw[Bz,aEq,←Bz,hX,Cf hy,Bz,Bz,aEq];show _++[y2.pure]=_++[y.pure];rw[hy2])⟩,sb⟩
 refine Lc [box b8 (Dk y) 220] [0,2,101,503,204,5505,6,507] (ocs (oca 1 rfl) (ocn _)) ?_
 refine Jz 3 ?_
 refine Da [0] (jU y (Ob hxl (mog hy))) ?_
 rintro _ _ ⟨y2,rfl,rfl,hy2⟩
 refine⟨ocs (oca 1 rfl) (ocn _),?_⟩
 refine Es (Bw y2) fun b40=>?_
 refine Fw.ge rfl rfl rfl rfl (Bg Hw (i:=12) (j:=0) (el:=y2) rfl QM rfl rfl rfl rfl rfl om om) ?_
 rintro _ _ ⟨A41,q41,rfl,rfl⟩
 refine⟨ocs (oca 2 rfl) (ocn _),?_⟩
 refine Jz 1 ?_
 refine Fw.up rfl rfl rfl (Up.store (i:=11) rfl rfl rfl Xk rfl rfl (bt1 rfl)) (ocs (oca 2 rfl) (ocn _)) ?_
 refine Jz 3 ?_
 refine zM (Jj (qK X y2 (Jz 5 ?_)))
 refine Cg ⟨⟨A41,q41,(X++[y2]),j+1,rfl,rfl,rfl,om,(by rw[Bz,aEq,←Bz,hX,Cf hy,Bz,Bz,aEq];show _++[y2.pure]=_++[y.pure];rw[hy2])⟩,sb⟩
 refine Jz 8 ?_
 refine Eg [.int .u8 ((x.kind:Nat):Int), .string x.name, .string x.hand,vs Ax X qx,vs At2 t2 qt2,vs Ae2 e2 qe2] fun b46=>?_
 refine Jge rfl rfl rfl (Bg Jh (i:=3) (j:=0) (el:=(⟨x.kind,x.name,x.hand,Ax,qx,X,At2,qt2,t2,Ae2,qe2,e2⟩:St)) rfl aDe rfl rfl rfl rfl rfl om om) ?_
 rintro _ _ ⟨A47,q47,rfl,rfl⟩
 refine Jz 4 ?_
 refine Pq (Pq (VG X (Cj (Cj (Jj (XN (⟨x.kind,x.name,x.hand,Ax,qx,X,At2,qt2,t2,Ae2,qe2,e2⟩:St) (Nz (Le (ME O (⟨x.kind,x.name,x.hand,Ax,qx,X,At2,qt2,t2,Ae2,qe2,e2⟩:St) (Jz 5 ?_))))))))))
 refine Cg ⟨⟨A47,q47,(O++[(⟨x.kind,x.name,x.hand,Ax,qx,X,At2,qt2,t2,Ae2,qe2,e2⟩:St)]),k+1,rfl,rfl,rfl,om,(by rw[Je,aEq,←Je,hO,Cf hx,Je,Je,aEq];show _++[(⟨x.kind,x.name,x.hand,Cv X,Ba t2,Ba e2⟩:PS)]=_++[x.pure];rw[hX,aEm (l:=x.exprs) om,ht2,he2,←Nh x])⟩,sb⟩
 refine Jz 12 ?_
 refine Ic (Ic (SA O (Cu (Df (Je1 Tryz.results56 ?_)))))
 exact⟨Ao,qo,O,rfl,rfl,by rw[hO,aEm om]⟩
theorem aL:∀l:List St,∀(A:OA) (q:Nat),l.length≤12→Dy (Ba l)→aMa Tryz.prog 56 [vs A l q] [all (lsG Dk aMc A l)] (Yq l)
 |l,A,q,h1,h2=>xS l (fun x hx=>⟨aL x.thn,aL x.els⟩) A q h1 h2
termination_by l=>SizeOf.sizeOf l
decreasing_by
 all_goals
  have h:=aFq hx
  have:SizeOf.sizeOf x.thn<SizeOf.sizeOf x∧SizeOf.sizeOf x.els<SizeOf.sizeOf x:=by cases x;simp only[St.mk.sizeOf_spec];omega
  omega
end Go.Proofs.YtlihklladkagpaaGreatDoor
namespace Go.Sep
open Go.RowKit Go.Flow Go.Mem
theorem aO{P:Program}{o:Oper}{ρ:Cb}{Γ:List Ai}{x y:Operand}{α:Type}{enc:α→List Value}{size:Nat}(E:Enc enc size){t e:TypeId}{bytes:Nat}{zs:List Value}{B:OA}{cb:Nat}{m:List α}(ho:o.op= .call {callee:= .builtin .append,args:=#[x,y],argTypes:=#[t,t]})(ht:Ci P t e size bytes zs)
    (hx:ev ρ x=some (nz)) (hy:ev ρ y=some (vs B m cb)) (hs:∀w,oks Γ w→Src w B (m.flatMap enc)) (h63:m.length≤9223372036854775807) (hby:m.length*bytes≤140737488355328):
    Mk P o ρ Γ (fun v N=>∃A' cap',v=vs A' m cap'∧N=[rows enc e size A' cap' m]):=by
 rcases Nat.eq_zero_or_pos m.length with h0|h0
 · have hm:m=[]:=aFp h0
   subst hm
   intro a w ha hG
   have hrd:=Rt (P:=P) (Γ:=Γ) ho ht hx hy h0 (aEu 0) a w ha hG
   refine⟨.slice none 0 0,[rows enc e size none 0 ([]:List α)],w,hrd,⟨none,0,rfl,rfl⟩,⟨⟨fun c hc=>?_,by simp[owns,rows,row,Ny],by simp[reads,rows,row]⟩,Ey.refl _ _,fun g hg=>by simp[owns,rows,row,Ny]at hg,by simp[reads,rows,row]⟩⟩
   rw[aEr.1 hc]
   exact World.ownsRow_nil w 0 e size
 ·exact Ov E ho ht hx hy hs h0 h63 hby
end Go.Sep
namespace Go.Proofs.YtlihklladkagpaaGreatDoor
open Go.RowKit Go.Flow Go.Mem Go.Sep Go.In
section
variable{C:Cx}{ρ:Cb}{Γ:List Ai}{K:Act→World→Prop}
theorem Xv{α:Type}{f:α→List Ai}(O:List α)(x:α)(k:To C ρ (all ((O++[x]).flatMap f)::Γ) K):To C ρ (all (f x)::all (O.flatMap f)::Γ) K:=by
 refine To.perm (aFc _ _ _) (Kq ?_)
 rw[aFe,show[x].flatMap f=f x from aEz _]at k
 exact k
theorem XO(k:Xl)(h:Hd){ty:TypeId}(kk:To C ρ (all (h.kids k)::Γ) K):To C ρ (rows aMb ty 1 h.Ap h.qp h.ps::all (lsG k.f k.g h.Ab h.body)::Γ) K:=Cq (Dn kk)
theorem XP(k:Xl)(v:Vs){ty:TypeId}(kk:To C ρ (all (v.kids k)::Γ) K):To C ρ (rows Me ty 3 v.A v.q v.l::all (v.l.flatMap (Hd.kids k))::Γ) K:=Cq (Dn kk)
theorem XQ(k:Xl)(c:Cm){t1 t2:TypeId}{z:Nat}(kk:To C ρ (all (c.kids k)::Γ) K):To C ρ (rows k.v t1 z c.Av c.qv c.vars::rows Ik t2 1 c.An c.qn c.vers::all (c.vers.flatMap (Vs.kids k))::Γ) K:=by
 refine Cq (To.perm (Γ':=rows Ik t2 1 c.An c.qn c.vers::all (c.vers.flatMap (Vs.kids k))::ros k.v c.Av c.vars::Γ) ?_ (Cq (Dn ?_)))
 ·exact(aEl (l₁:=[_,_])).symm
 exact To.perm (aFc _ _ _) (Dn kk)
theorem XR(k:Xl)(f:Fl){t1 t2 t3:TypeId}(kk:To C ρ (all (f.kids k)::Γ) K):To C ρ (rows Gx t1 2 f.Af f.qf f.flags::rows Lb t2 3 f.Al f.ql f.links::rows Jl t3 3 f.Ac f.qc f.comps::all (f.comps.flatMap (Cm.kids k))::Γ) K:=by
 refine Cq (To.perm (Γ':=rows Lb t2 3 f.Al f.ql f.links::rows Jl t3 3 f.Ac f.qc f.comps::all (f.comps.flatMap (Cm.kids k))::ros Gx f.Af f.flags::Γ) ?_ (Cq ?_))
 ·exact(aEl (l₁:=[_,_,_])).symm
 refine To.perm (Γ':=rows Jl t3 3 f.Ac f.qc f.comps::all (f.comps.flatMap (Cm.kids k))::ros Lb f.Al f.links::ros Gx f.Af f.flags::Γ) ?_ (Cq (Dn (To.perm (aFc _ _ _) (Dn ?_))))
 ·exact(aEl (l₁:=[_,_])).symm
 exact To.perm (aFc _ _ _) (Dn kk)
end
theorem xY{C:Cx}{ρ:Cb}{Γ:List Ai}{K:Act→World→Prop}{α:Type}{enc:α→List Value}{e:TypeId}{size cap:Nat}{A:OA}{l:List α}(i:Nat)(hi:Γ[i]?=some (rows enc e size A cap l))(k:l.length≤cap→To C ρ Γ K):To C ρ Γ K:=Lt (fun w hw=>by
 obtain⟨A',c',h,_,h2,_⟩:=Qn (hw.each _ (mog hi))
 injection h with _ _ h
 rw[h];exact h2) k
def Vs.Cap(v:Vs):Prop:=v.l.length≤v.q∧∀h∈v.l,h.ps.length≤h.qp
def Cm.Cap(c:Cm):Prop:=(c.vars.length≤c.qv∧c.vers.length≤c.qn)∧∀v∈c.vers,v.Cap
def Fl.Cap(F:Fl):Prop:=(F.flags.length≤F.qf∧F.links.length≤F.ql∧F.comps.length≤F.qc)∧∀c∈F.comps,c.Cap
theorem qQ{α:Type}{p:α→Prop}{l:List α}{x:α}(h:∀y∈l,p y)(hx:p x):∀y∈l++[x],p y:=fun y hy=>(aFi.1 hy).elim (h y) fun hy=>by rw[aEr.1 hy];exact hx
section
variable{k:Xl}{F:Fl}{c:Cm}{v:Vs}{h:Hd}{i:Nat}
theorem Qh:ros Gx F.Af F.flags∈F.kids k:=aEd ..
theorem Uq:ros Lb F.Al F.links∈F.kids k:=aEb _ (aEd ..)
theorem Jc:ros Jl F.Ac F.comps∈F.kids k:=aEb _ (aEb _ (aEd ..))
theorem Fj(hc:F.comps[i]?=some c):∀z∈c.kids k,z∈F.kids k:=fun z hz=>aEb _ (aEb _ (aEb _ (aEy.2 ⟨c,mog hc,hz⟩)))
theorem Rj:ros k.v c.Av c.vars∈c.kids k:=aEd ..
theorem Lm:ros Ik c.An c.vers∈c.kids k:=aEb _ (aEd ..)
theorem Ky(hv:c.vers[i]?=some v):∀z∈v.kids k,z∈c.kids k:=fun z hz=>aEb _ (aEb _ (aEy.2 ⟨v,mog hv,hz⟩))
theorem Wl:ros Me v.A v.l∈v.kids k:=aEd ..
theorem Ur(hh:v.l[i]?=some h):∀z∈h.kids k,z∈v.kids k:=fun z hz=>aEb _ (aEy.2 ⟨h,mog hh,hz⟩)
theorem fI:ros aMb h.Ap h.ps∈h.kids k:=aEd ..
theorem Rk:∀z∈lsG k.f k.g h.Ab h.body,z∈h.kids k:=fun z hz=>aEb _ hz
end
structure aBs(F:Fl):Prop where
 flags:F.flags.length≤2
 links:F.links.length≤9
 comps:F.comps.length≤3
 vars:∀c∈F.comps,c.vars.length≤5∧∀v∈c.vars,v.ty≤3
 vers:∀c∈F.comps,c.vers.length≤2∧∀v∈c.vers,v.l.length≤3∧∀h∈v.l,h.ps.length≤2∧h.body.length≤12∧Dy (Ba h.body)
theorem xZ(F:Fl)(hF:aBs F):
    aMa Tryz.prog 27 [.agg (cF F []).toArray] [all (F.kids eR)] (fun v Γ'=>∃F':Fl,v= .agg F'.cells.toArray∧Γ'=[all (F'.kids eX)]∧F'.Cap∧F'.pure=F.pure):=by
 have hfl:=hF.flags
 have hlk:=hF.links
 have hcm:=hF.comps
 refine Am Tryz.func27 Tryz.ntmps27 fun w0=>?_
 refine Js (To.g (Jbo fun b1=>?_))
 refine Jal fun b2=>?_
 refine Jz 6 ?_
 refine Jr (.bd [.string F.name,nz,nz,nz]) ?_
 refine Jal fun b3=>?_
 refine Jz 5 ?_
 refine To.one 3 rfl (ros Gx F.Af F.flags) rfl (Qh) (Jz 8 ?_)
 refine Cz (Gx) 185 2 (Cw (fun s g mz ρ Γ=>∃(Af:OA) (qf:Nat) (Fs:List Fg) (kf:Nat),ρ=[s 1,s 2,s 3,(22,vs F.Af F.flags F.qf),s 23,(24,nv kf)]∧Γ=[g 4,g 3,box b3 [.string F.name,vs Af Fs qf,nz,nz] 108,ros Gx F.Af F.flags,g 5,rows Gx 185 2 Af qf Fs]∧mz=F.flags.length-kf∧(kf≤F.flags.length)∧(Fs=F.flags.take kf)) ⟨⟨none,0,([]:List Fg),0,rfl,rfl,rfl,om,rfl⟩,sb⟩ ?_)
 rintro mz _ _ ⟨Af,qf,Fs,kf,rfl,rfl,rfl,hkf,hFs⟩
 have hFl:Fs.length≤2:=by rw[hFs,aEe];omega
 refine Jz 6 ?_
 refine Jcp rfl ?_ ?_<;>intro c25
 obtain⟨y,hy⟩:=exg F.flags kf om
 refine Jz 8 ?_
 refine Jal fun b5=>?_
 refine Jz 10 ?_
 refine Jr (.bd [.string y.name, .bool y.init]) ?_
 refine Eg [.string y.name, .bool y.init] fun b35=>?_
 refine Jge rfl rfl rfl (Bg tN (i:=7) (j:=0) (el:=y) rfl aAc rfl rfl rfl rfl rfl om om) ?_
 rintro _ _ ⟨A36,q36,rfl,rfl⟩
 refine Jz 10 ?_
 refine Cg ⟨⟨A36,q36,(Fs++[y]),kf+1,rfl,rfl,rfl,om,(by rw[Cf hy,←hFs])⟩,sb⟩
 refine Jz 7 ?_
 refine To.one 4 rfl (ros Lb F.Al F.links) rfl (Uq) (Jz 8 ?_)
 refine Cz (Lb) 186 3 (Cw (fun s g mz ρ Γ=>∃(Al:OA) (ql:Nat) (Ls:List Lk) (kl:Nat),ρ=[s 1,s 2,s 3,(40,vs F.Al F.links F.ql),s 41,(42,nv kl)]∧Γ=[g 2,g 3,box b3 [.string F.name,vs Af Fs qf,vs Al Ls ql,nz] 108,g 7,ros Lb F.Al F.links,g 6,rows Lb 186 3 Al ql Ls]∧mz=F.links.length-kl∧(kl≤F.links.length)∧(Ls=F.links.take kl)) ⟨⟨none,0,([]:List Lk),0,rfl,rfl,rfl,om,rfl⟩,sb⟩ ?_)
 rintro mz _ _ ⟨Al,ql,Ls,kl,rfl,rfl,rfl,hkl,hLs⟩
 have hLl:Ls.length≤9:=by rw[hLs,aEe];omega
 refine Jz 6 ?_
 refine Jcp rfl ?_ ?_<;>intro c43
 obtain⟨y,hy⟩:=exg F.links kl om
 refine Jz 8 ?_
 refine Jal fun b7=>?_
 refine Jz 12 ?_
 refine Jr (.bd [.string y.src, .string y.dst,iv y.lat]) ?_
 refine Eg [.string y.src, .string y.dst,iv y.lat] fun b55=>?_
 refine Jge rfl rfl rfl (Bg tO (i:=8) (j:=0) (el:=y) rfl aAd rfl rfl rfl rfl rfl om om) ?_
 rintro _ _ ⟨A56,q56,rfl,rfl⟩
 refine Jz 10 ?_
 refine Cg ⟨⟨A56,q56,(Ls++[y]),kl+1,rfl,rfl,rfl,om,(by rw[Cf hy,←hLs])⟩,sb⟩
 refine Jz 7 ?_
 refine To.one 5 rfl (ros Jl F.Ac F.comps) rfl (Jc) (Jz 8 ?_)
 refine Cz (Jl) 175 3 (Ko (Cw (fun s g mz ρ Γ=>∃(Ac:OA) (qc:Nat) (O:List Cm) (k:Nat),ρ=[s 2,s 3,(60,vs F.Ac F.comps F.qc),s 61,(62,nv k)]∧Γ=[g 4,box b3 [.string F.name,vs Af Fs qf,vs Al Ls ql,vs Ac O qc] 108,g 6,g 9,ros Jl F.Ac F.comps,g 8,rows Jl 175 3 Ac qc O,all (List.flatMap (Cm.kids eX) O)]∧mz=F.comps.length-k∧(k≤F.comps.length)∧(O.map Cm.pure=(F.comps.take k).map Cm.pure)∧(∀x∈O,x.Cap)) ⟨⟨none,0,([]:List Cm),0,rfl,rfl,rfl,om,rfl,(fun _ h=>nomatch h)⟩,sb⟩ ?_))
 rintro mz _ _ ⟨Ac,qc,O,k,rfl,rfl,rfl,hk,hO,hOc⟩
 have hOl:O.length≤3:=by have h:=congrArg List.length hO;rw[aEg,aEg,aEe]at h;omega
 refine Jz 6 ?_
 refine Jcp rfl ?_ ?_<;>intro c63
 obtain⟨c,hc⟩:=exg F.comps k om
 obtain⟨hcv,hcy⟩:=hF.vars c (mog hc)
 obtain⟨hcw,hcz⟩:=hF.vers c (mog hc)
 refine Jz 8 ?_
 refine Jal fun b9=>?_
 refine Jz 7 ?_
 refine Jr (.bd [.string c.name,nz,nz]) ?_
 refine Jal fun b10=>?_
 refine Jz 5 ?_
 refine Db 7 rfl (c.kids eR) (Cm.lax eR c) (Fj hc) (To.one 0 rfl (ros Oj c.Av c.vars) rfl (Rj) (Jz 8 ?_))
 refine Cz (Iy) 189 3 (Cw (fun s g mz ρ Γ=>∃(Av:OA) (qv:Nat) (V:List Vr) (j:Nat),ρ=[s 2,s 3,s 60,s 61,s 62,s 9,s 10,(70,vs c.Av c.vars c.qv),s 71,(72,nv j)]∧Γ=[g 5,g 6,g 7,g 8,g 9,g 10,g 11,g 12,g 4,box b10 [.string c.name,vs Av V qv,nz] 175,ros Oj c.Av c.vars,g 2,rows Iy 189 3 Av qv V]∧mz=c.vars.length-j∧(j≤c.vars.length)∧(V=c.vars.take j)) ⟨⟨none,0,([]:List Vr),0,rfl,rfl,rfl,om,rfl⟩,sb⟩ ?_)
 rintro mz _ _ ⟨Av,qv,V,j,rfl,rfl,rfl,hj,hV⟩
 have hVl:V.length≤5:=by rw[hV,aEe];omega
 refine Jz 6 ?_
 refine Jcp rfl ?_ ?_<;>intro c73
 obtain⟨y,hy⟩:=exg c.vars j om
 have hy3:=hcy y (mog hy)
 refine Jz 8 ?_
 refine Jal fun b12=>?_
 refine Jz 10 ?_
 refine Jr (Fv rfl rfl Tryz.underlying3 Tryz.underlying187 (IntWalk.u8_in _ om)) ?_
 refine Jz 2 ?_
 refine Jr (.bd [.string y.name, .int .u8 ((y.ty:Nat):Int),iv y.init]) ?_
 refine Eg [.string y.name, .int .u8 ((y.ty:Nat):Int),iv y.init] fun b86=>?_
 refine Jge rfl rfl rfl (Bg KW (i:=14) (j:=0) (el:=y) rfl aAg rfl rfl rfl rfl rfl om om) ?_
 rintro _ _ ⟨A87,q87,rfl,rfl⟩
 refine Jz 10 ?_
 refine Cg ⟨⟨A87,q87,(V++[y]),j+1,rfl,rfl,rfl,om,(by rw[Cf hy,←hV])⟩,sb⟩
 refine Jz 7 ?_
 refine To.one 11 rfl (ros Ik c.An c.vers) rfl (Lm) (Jz 8 ?_)
 refine Cz (Ik) 192 1 (Ko (Cw (fun s g mz ρ Γ=>∃(Aw:OA) (qw:Nat) (W:List Vs) (jw:Nat),ρ=[s 2,s 3,s 60,s 61,s 62,s 10,s 91,s 92,(93,nv jw)]∧Γ=[g 3,g 4,g 5,g 6,g 7,g 8,g 9,g 10,box b10 [.string c.name,vs Av V qv,vs Aw W qw] 175,g 15,g 2,g 14,rows Ik 192 1 Aw qw W,all (List.flatMap (Vs.kids eX) W)]∧mz=c.vers.length-jw∧(jw≤c.vers.length)∧(W.map Vs.pure=(c.vers.take jw).map Vs.pure)∧(∀x∈W,x.Cap)) ⟨⟨none,0,([]:List Vs),0,rfl,rfl,rfl,om,rfl,(fun _ h=>nomatch h)⟩,sb⟩ ?_))
 rintro mz _ _ ⟨Aw,qw,W,jw,rfl,rfl,rfl,hjw,hW,hWc⟩
 have hWl:W.length≤2:=by have h:=congrArg List.length hW;rw[aEg,aEg,aEe]at h;omega
 refine Jz 6 ?_
 refine Jcp rfl ?_ ?_<;>intro c94
 obtain⟨v,hv⟩:=exg c.vers jw om
 obtain⟨hvl,hvh⟩:=hcz v (mog hv)
 refine Jz 13 ?_
 refine Jal fun b15=>?_
 refine Jz 4 ?_
 refine Db 12 rfl (v.kids eR) (Vs.lax eR v) (Ky hv) (To.one 0 rfl (ros Me v.A v.l) rfl (Wl) (Jz 7 ?_))
 refine Cz (Me) 196 3 (Ko (Cw (fun s g mz ρ Γ=>∃(Ah:OA) (qh:Nat) (H:List Hd) (i:Nat),ρ=[s 2,s 3,s 60,s 61,s 62,s 10,s 91,s 92,s 93,s 15,s 97,s 98,(99,nv i)]∧Γ=[g 5,g 6,g 7,g 8,g 9,g 10,g 11,g 12,g 13,g 14,g 15,g 16,g 17,g 18,box b15 [vs Ah H qh] 192,g 2,g 3,rows Me 196 3 Ah qh H,all (List.flatMap (Hd.kids eX) H)]∧mz=v.l.length-i∧(i≤v.l.length)∧(H.map Hd.pure=(v.l.take i).map Hd.pure)∧(∀x∈H,x.ps.length≤x.qp)) ⟨⟨none,0,([]:List Hd),0,rfl,rfl,rfl,om,rfl,(fun _ h=>nomatch h)⟩,sb⟩ ?_))
 rintro mz _ _ ⟨Ah,qh,H,i,rfl,rfl,rfl,hi,hH,hHc⟩
 have hHl:H.length≤3:=by have h0:=congrArg List.length hH;rw[aEg,aEg,aEe]at h0;omega
 refine Jz 6 ?_
 refine Jcp rfl ?_ ?_<;>intro aCs
 obtain⟨h,hh⟩:=exg v.l i om
 obtain⟨hhp,hhb,hhl⟩:=hvh h (mog hh)
 refine Jz 3 ?_
 refine Ru (T:=(OA)×(Nat)×(OA)×(Nat)×(List St)×(OA)×(Nat)) (fun t=>([(2,pv b2),(3,pv b3),(60,vs F.Ac F.comps F.qc),(61,nv F.comps.length),(62,nv k),(10,pv b10),(91,vs c.An c.vers c.qn),(92,nv c.vers.length),(93,nv jw),(15,pv b15),(97,vs v.A v.l v.q),(98,nv v.l.length),(99,nv i)],[box b2 [.string bE,nz,nz,nz] 108,box b3 [.string F.name,vs Af Fs qf,vs Al Ls ql,vs Ac O qc] 108,rows Gx 185 2 Af qf Fs,rows Lb 186 3 Al ql Ls,ros Jl F.Ac F.comps,all (F.kids eR),rows Jl 175 3 Ac qc O,all (List.flatMap (Cm.kids eX) O),box b10 [.string c.name,vs Av V qv,vs Aw W qw] 175,rows Iy 189 3 Av qv V,ros Ik c.An c.vers,all (c.kids eR),rows Ik 192 1 Aw qw W,all (List.flatMap (Vs.kids eX) W),box b15 [vs (t.2.2.2.2.2.1) (H++[(⟨h.name,(t.1),(t.2.1),h.ps,(t.2.2.1),(t.2.2.2.1),(t.2.2.2.2.1)⟩:Hd)]) (t.2.2.2.2.2.2)] 192,ros Me v.A v.l,all (v.kids eR),rows aMb 9 1 (t.1) (t.2.1) h.ps,all (lsG Bw Dh (t.2.2.1) (t.2.2.2.2.1)),rows Me 196 3 (t.2.2.2.2.2.1) (t.2.2.2.2.2.2) (H++[(⟨h.name,(t.1),(t.2.1),h.ps,(t.2.2.1),(t.2.2.2.1),(t.2.2.2.2.1)⟩:Hd)]),all (List.flatMap (Hd.kids eX) H)])) (fun t=>(Ba (t.2.2.2.2.1)=Ba h.body)) ?_ ?_
 refine Jz 5 ?_
 refine Jal fun b17=>?_
 refine Jz 3 ?_
 refine Db 17 rfl (h.kids eR) (Hd.lax eR h) (Ur hh) (Db 0 rfl (lsG Dk aMc h.Ab h.body) (Dx _ _ _ _) (Rk (k:=eR)) (To.one 1 rfl (ros aMb h.Ap h.ps) rfl (fI) (Ki (VY (tel []) (PT [(9,[all (lsG Dk aMc h.Ab h.body)],(Yq h.body))])) mixed.h (Hy 1 9 rfl (by kernel_rfl) ?_ ?_))))
 refine Lc [box b17 [.string h.name,vs h.Ap h.ps h.qp,vs h.Ab h.body h.qb] 40] [0,2,3,4,5,7,8,206,7509,10,101,211,12512,13,514] (ocs (oca 3 rfl) (ocn _)) ?_
 refine Jz 7 ?_
 refine Fw.mk rfl rfl rfl rfl rfl (aO Ec (m:=h.ps) rfl s37 rfl rfl (oca (c:=ros aMb h.Ap h.ps) 0 rfl) om om) ?_
 rintro _ _ ⟨Ap2,qp2,rfl,rfl⟩
 refine Ka [2] rfl rfl rfl rfl .fc rfl (aL h.body h.Ab h.qb hhb hhl) rfl ?_
 rintro _ _ ⟨Ab2,qb2,hb2,rfl,rfl,hbp⟩
 refine⟨ocs (oca 4 rfl) (ocn _),?_⟩
 refine Fw.f rfl (.bd [.string h.name,vs Ap2 h.ps qp2,vs Ab2 hb2 qb2]) ?_
 refine Jz 1 ?_
 refine Es [.string h.name,vs Ap2 h.ps qp2,vs Ab2 hb2 qb2] fun b114=>?_
 refine Fw.ge rfl rfl rfl rfl (Bg fD (i:=23) (j:=0) (el:=(⟨h.name,Ap2,qp2,h.ps,Ab2,qb2,hb2⟩:Hd)) rfl WS rfl rfl rfl rfl rfl om om) ?_
 rintro _ _ ⟨A115,q115,rfl,rfl⟩
 refine⟨ocs (oca 5 rfl) (ocn _),?_⟩
 refine Jz 1 ?_
 refine Fw.up rfl rfl rfl (Up.store (i:=20) rfl rfl rfl aAo rfl rfl (bta rfl)) (ocs (oca 5 rfl) (ocn _)) ?_
 refine Jz 3 ?_
 refine Lv (Ap2,qp2,Ab2,qb2,hb2,A115,q115) hbp
 refine Lc [box b17 [.string h.name,vs h.Ap h.ps h.qp,vs h.Ab h.body h.qb] 40] [0,2,3,4,5,7,8,101,206,7509,10,211,12512,13,514] (ocs (oca 3 rfl) (ocn _)) ?_
 refine Jz 8 ?_
 refine Fw.mk rfl rfl rfl rfl rfl (aO Ec (m:=h.ps) rfl s37 rfl rfl (oca (c:=ros aMb h.Ap h.ps) 0 rfl) om om) ?_
 rintro _ _ ⟨Ap2,qp2,rfl,rfl⟩
 refine Ka [2] rfl rfl rfl rfl .fc rfl (aL h.body h.Ab h.qb hhb hhl) rfl ?_
 rintro _ _ ⟨Ab2,qb2,hb2,rfl,rfl,hbp⟩
 refine⟨ocs (oca 4 rfl) (ocn _),?_⟩
 refine Fw.f rfl (.bd [.string h.name,vs Ap2 h.ps qp2,vs Ab2 hb2 qb2]) ?_
 refine Es [.string h.name,vs Ap2 h.ps qp2,vs Ab2 hb2 qb2] fun b114=>?_
 refine Fw.ge rfl rfl rfl rfl (Bg fD (i:=23) (j:=0) (el:=(⟨h.name,Ap2,qp2,h.ps,Ab2,qb2,hb2⟩:Hd)) rfl WS rfl rfl rfl rfl rfl om om) ?_
 rintro _ _ ⟨A115,q115,rfl,rfl⟩
 refine⟨ocs (oca 5 rfl) (ocn _),?_⟩
 refine Jz 1 ?_
 refine Fw.up rfl rfl rfl (Up.store (i:=20) rfl rfl rfl aAo rfl rfl (bta rfl)) (ocs (oca 5 rfl) (ocn _)) ?_
 refine Jz 3 ?_
 refine Lv (Ap2,qp2,Ab2,qb2,hb2,A115,q115) hbp
 rintro⟨Ap2,qp2,Ab2,qb2,hb2,Ah2,qh2⟩ hbp
 replace hbp:Ba hb2=Ba h.body:=hbp
 dsimp only
 refine xY 17 rfl (fun hzc=>?_)
 refine zN (zN (XO eX (⟨h.name,Ap2,qp2,h.ps,Ab2,qb2,hb2⟩:Hd) (rY (Le (Xv H (⟨h.name,Ap2,qp2,h.ps,Ab2,qb2,hb2⟩:Hd) (Jz 5 ?_))))))
 refine Cg ⟨⟨Ah2,qh2,(H++[(⟨h.name,Ap2,qp2,h.ps,Ab2,qb2,hb2⟩:Hd)]),i+1,rfl,rfl,rfl,om,(by rw[aEq,hH,Cf hh,aEq];show _++[(⟨h.name,h.ps,Ba hb2⟩:PH)]=_++[Hd.pure h];rw[hbp];rfl),(qQ hHc hzc)⟩,sb⟩
 refine Jz 9 ?_
 refine Eg [vs Ah H qh] fun b121=>?_
 refine Jge rfl rfl rfl (Bg Vy (i:=13) (j:=0) (el:=(⟨Ah,qh,H⟩:Vs)) rfl aAh rfl rfl rfl rfl rfl om om) ?_
 rintro _ _ ⟨A122,q122,rfl,rfl⟩
 refine Jz 5 ?_
 refine xY 18 rfl (fun hhc=>?_)
 refine rY (rY (XP eX (⟨Ah,qh,H⟩:Vs) (mD (Le (Xv W (⟨Ah,qh,H⟩:Vs) (Jz 5 ?_))))))
 refine Cg ⟨⟨A122,q122,(W++[(⟨Ah,qh,H⟩:Vs)]),jw+1,rfl,rfl,rfl,om,(by rw[aEq,hW,Cf hv,aEq];show _++[H.map Hd.pure]=_++[v.l.map Hd.pure];rw[hH,aEm (l:=v.l) om]),(qQ hWc ⟨hhc,hHc⟩)⟩,sb⟩
 refine Jz 9 ?_
 refine Eg [.string c.name,vs Av V qv,vs Aw W qw] fun b128=>?_
 refine Jge rfl rfl rfl (Bg BB (i:=7) (j:=0) (el:=(⟨c.name,Av,qv,V,Aw,qw,W⟩:Cm)) rfl aAe rfl rfl rfl rfl rfl om om) ?_
 rintro _ _ ⟨A129,q129,rfl,rfl⟩
 refine Jz 5 ?_
 refine xY 10 rfl (fun hvc=>?_)
 refine xY 13 rfl (fun hwc=>?_)
 refine rX (rX (Su (XQ eX (⟨c.name,Av,qv,V,Aw,qw,W⟩:Cm) (DX (Le (Xv O (⟨c.name,Av,qv,V,Aw,qw,W⟩:Cm) (Jz 5 ?_)))))))
 refine Cg ⟨⟨A129,q129,(O++[(⟨c.name,Av,qv,V,Aw,qw,W⟩:Cm)]),k+1,rfl,rfl,rfl,om,(by rw[aEq,hO,Cf hc,aEq];show _++[(⟨c.name,V,W.map Vs.pure⟩:PC)]=_++[Cm.pure c];rw[hV,hW,aEm (l:=c.vars) om,aEm (l:=c.vers) om];rfl),(qQ hOc ⟨⟨hvc,hwc⟩,hWc⟩)⟩,sb⟩
 refine Jz 12 ?_
 refine xY 2 rfl (fun hfc=>?_)
 refine xY 3 rfl (fun hlc=>?_)
 refine xY 6 rfl (fun hcc=>?_)
 refine Cj (Cj (Nz (Nz (XR eX (⟨F.name,Af,qf,Fs,Al,ql,Ls,Ac,qc,O⟩:Fl) (Gf [0] Tryz.results27 ?_)))))
 exact⟨(⟨F.name,Af,qf,Fs,Al,ql,Ls,Ac,qc,O⟩:Fl),rfl,rfl,⟨⟨hfc,hlc,hcc⟩,hOc⟩,by show(⟨F.name,Fs,Ls,O.map Cm.pure⟩:PF)=⟨F.name,F.flags,F.links,F.comps.map Cm.pure⟩;rw[hFs,hLs,hO,aEm (l:=F.flags) om,aEm (l:=F.links) om,aEm (l:=F.comps) om]⟩
end Go.Proofs.YtlihklladkagpaaGreatDoor

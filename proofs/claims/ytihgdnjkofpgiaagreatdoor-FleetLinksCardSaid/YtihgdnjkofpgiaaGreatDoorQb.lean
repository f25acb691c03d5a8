/- Own text. -/
import Derived.Test.YtihgdnjkofpgiaaGreatDoorHa
import Derived.Test.YtihgdnjkofpgiaaGreatDoorBa
set_option maxHeartbeats 8000000
set_option maxRecDepth 100000
set_option linter.unusedVariables false
set_option linter.unusedSimpArgs false
namespace Go.Proofs.YtihgdnjkofpgiaaGreatDoor
open Go.RowKit Go.Flow Go.Mem Go.Sep Go.In
def lsF(f:Ex→List vU)(A:OA)(l:List Ex):List Ad:=ros f A l::Ea f l
def lsG(f:Ex→List vU)(g:St→List vU)(A:OA)(l:List St):List Ad:=ros g A l::Eh f g l
theorem EH(f:Ex→List vU)(O:List Ex)(e:Ex):Ea f (O++[e])=Ea f O++e.kids f:=by
 rw[Kn,Kn,aPm];show _++(e.kids f++[])=_;rw[aOo]
theorem EI(f:Ex→List vU)(g:St→List vU)(O:List St)(e:St):Eh f g (O++[e])=Eh f g O++e.kids f g:=by
 rw[Lj,Lj,aPm];show _++(e.kids f g++[])=_;rw[aOo]
section
variable{C:Cx}{ρ:Bj}{Γ:List Ad}{K:Act→wD→Prop}{A:OA}{ty:tI}{q:Nat}
theorem uZ{f:Ex→List vU}(O:List Ex)(e:Ex)(k:To C ρ (all (Ea f (O++[e]))::Γ) K):To C ρ (all (e.kids f)::all (Ea f O)::Γ) K:=
 bz (aPd _ _ _) (Ko (by rw[←EH];exact k))
theorem UE{f:Ex→List vU}{g:St→List vU}(O:List St)(e:St)(k:To C ρ (all (Eh f g (O++[e]))::Γ) K):To C ρ (all (e.kids f g)::all (Eh f g O)::Γ) K:=
 bz (aPd _ _ _) (Ko (by rw[←EI];exact k))
theorem aDo{f:Ex→List vU}{z:Nat}(l:List Ex)(k:To C ρ (all (lsF f A l)::Γ) K):To C ρ (rows f ty z A q l::all (Ea f l)::Γ) K:=Dp (Cw k)
theorem aAo{f:Ex→List vU}{g:St→List vU}{z:Nat}(l:List St)(k:To C ρ (all (lsG f g A l)::Γ) K):To C ρ (rows g ty z A q l::all (Eh f g l)::Γ) K:=Dp (Cw k)
theorem aDp(f:Ex→List vU)(k:To C ρ (all (Ea f [])::Γ) K):To C ρ Γ K:=Hz k
theorem aAp(f:Ex→List vU)(g:St→List vU)(k:To C ρ (all (Eh f g [])::Γ) K):To C ρ Γ K:=Hz k
theorem aKk{f:Ex→List vU}{g:St→List vU}(s:St)(k:To C ρ (all (s.kids f g)::Γ) K):To C ρ (all (lsF f s.A s.exprs)::all (lsG f g s.At s.thn)::all (lsG f g s.Ae s.els)::Γ) K:=by
 refine bz (Γ':=all (lsG f g s.At s.thn)::all (lsG f g s.Ae s.els)::all (lsF f s.A s.exprs)::Γ) ?_ (Ko (bz (aPd _ _ _) (Ko ?_)))
 ·exact(List.Perm.trans (List.Perm.cons _ (aPd _ _ _)) (aPd _ _ _)).symm
 ·rw[Pj]at k;exact k
end
theorem Ib{f:Ex→List vU}(e:Ex):ros f e.A e.args∈e.kids f:=by rw[Ky];exact aNu ..
theorem Hl{f:Ex→List vU}{e x:Ex}{j:Nat}(h:e.args[j]?=some x):∀c∈x.kids f,c∈e.kids f:=fun c hc=>by
 rw[Ky,Kn];exact aNs _ (aOs.2 ⟨x,sN h,hc⟩)
theorem Xq{f:Ex→List vU}{A:OA}{l:List Ex}{x:Ex}{j:Nat}(h:l[j]?=some x):∀c∈x.kids f,c∈lsF f A l:=fun c hc=>by
 show c∈_::Ea f l;rw[Kn];exact aNs _ (aOs.2 ⟨x,sN h,hc⟩)
theorem Hw{f:Ex→List vU}{g:St→List vU}{A:OA}{l:List St}{x:St}{j:Nat}(h:l[j]?=some x):∀c∈x.kids f g,c∈lsG f g A l:=fun c hc=>by
 show c∈_::Eh f g l;rw[Lj];exact aNs _ (aOs.2 ⟨x,sN h,hc⟩)
theorem Kz{f:Ex→List vU}{g:St→List vU}(s:St):∀c∈lsF f s.A s.exprs,c∈s.kids f g:=fun c hc=>by rw[Pj];exact aQk _ hc
theorem Gn{f:Ex→List vU}{g:St→List vU}(s:St):∀c∈lsG f g s.At s.thn,c∈s.kids f g:=fun c hc=>by rw[Pj];exact aQb _ (aQk _ hc)
theorem Fe{f:Ex→List vU}{g:St→List vU}(s:St):∀c∈lsG f g s.Ae s.els,c∈s.kids f g:=fun c hc=>by rw[Pj];exact aQb _ (aQb _ hc)
theorem Lm(f:Ex→List vU)(A:OA)(l:List Ex):Lax (lsF f A l):=eu rfl (jD f l)
theorem Co(f:Ex→List vU)(g:St→List vU)(A:OA)(l:List St):Lax (lsG f g A l):=eu rfl (bU f g l)
mutual
def PE.low:PE→Prop
 |⟨o,_,_,l⟩=>o≤23∧l.length≤2∧Ku l
def Ku:List PE→Prop
 |[]=>True
 |e::r=>PE.low e∧Ku r
end
mutual
def PS.low:PS→Prop
 |⟨k,_,_,es,t,e⟩=>k≤10∧es.length≤4∧Ku es∧(t.length≤12∧Cu t)∧e.length≤12∧Cu e
def Cu:List PS→Prop
 |[]=>True
 |e::r=>PS.low e∧Cu r
end
theorem Xr:∀{l:List PE},Ku l→∀x∈l,x.low
 |[],_,x,h=>by cases h
 | e::r,h,x,hx=>by
   rcases aNx.1 hx with rfl|hx
   ·exact h.1
   ·exact Xr h.2 x hx
theorem Vf:∀{l:List PE},(∀x∈l,x.low)→Ku l
 |[],_=>trivial
 |e::r,h=>⟨h e (aNu ..),Vf fun x hx=>h x (aNs _ hx)⟩
theorem gY:∀{l:List PS},Cu l→∀x∈l,x.low
 |[],_,x,h=>by cases h
 | e::r,h,x,hx=>by
   rcases aNx.1 hx with rfl|hx
   ·exact h.1
   ·exact gY h.2 x hx
theorem aF:∀{l:List PS},(∀x∈l,x.low)→Cu l
 |[],_=>trivial
 |e::r,h=>⟨h e (aNu ..),aF fun x hx=>h x (aNs _ hx)⟩
theorem Gv{e x:Ex}(h:e.pure.low)(hx:x∈e.args):x.pure.low:=by
 rw[El]at h;refine Xr h.2.2 x.pure ?_;rw[Bi];exact aOm.2 ⟨x,hx,rfl⟩
theorem Re{e:Ex}(h:e.pure.low):e.op≤23∧e.args.length≤2:=by
 rw[El]at h;refine⟨h.1,?_⟩;have:=h.2.1;rwa[Bi,aNv]at this
theorem Lp{l:List Ex}(h:Ku (Cn l)){x:Ex}(hx:x∈l):x.pure.low:=Xr h x.pure (by rw[Bi];exact aOm.2 ⟨x,hx,rfl⟩)
theorem Hy{l:List St}(h:Cu (Ai l)){x:St}(hx:x∈l):x.pure.low:=gY h x.pure (by rw[Dg];exact aOm.2 ⟨x,hx,rfl⟩)
theorem Ii{s:St}(h:s.pure.low):s.kind≤10∧(s.exprs.length≤4∧Ku (Cn s.exprs))∧(s.thn.length≤12∧Cu (Ai s.thn))∧s.els.length≤12∧Cu (Ai s.els):=by
 rw[Ir]at h;obtain⟨h1,h2,h3,⟨h4,h5⟩,h6,h7⟩:=h;rw[Bi,aNv]at h2;rw[Dg,aNv]at h4 h6;exact⟨h1,⟨h2,h3⟩,⟨h4,h5⟩,h6,h7⟩
section
variable{c:Ct}{np:Nat}
theorem Kq.low{d:Nat}{e:PE}(h:Kq c np d e):e.low:=by
 induction h with
 |num d n h=>exact⟨show 1≤23 by decide,aOk _,trivial⟩
 |var d k h=>exact⟨show 5≤23 by decide,aOk _,trivial⟩
 |par d k h=>exact⟨show 5≤23 by decide,aOk _,trivial⟩
 |now d=>exact⟨show 4≤23 by decide,aOk _,trivial⟩
 |get d e ht h ih=>exact⟨show 6≤23 by decide,show 1≤2 by decide,ih,trivial⟩
 |size d ht=>exact⟨show 8≤23 by decide,aOk _,trivial⟩
 |neg d e h ih=>exact⟨show 9≤23 by decide,show 1≤2 by decide,ih,trivial⟩
 |bin d op a b ho ha hb iha ihb=>exact⟨show op≤23 by omega,aOd 2,iha,ihb,trivial⟩
theorem Ow.low{d:Nat}{e:PE}(h:Ow c np d e):e.low:=by
 induction h with
 |tf d op h=>exact⟨show op≤23 by omega,aOk _,trivial⟩
 |b0 d=>exact⟨show 5≤23 by decide,aOk _,trivial⟩
 |flag d k h=>exact⟨show 5≤23 by decide,aOk _,trivial⟩
 |has d e ht h=>exact⟨show 7≤23 by decide,show 1≤2 by decide,h.low,trivial⟩
 |not d e h ih=>exact⟨show 10≤23 by decide,show 1≤2 by decide,ih,trivial⟩
 |two d op a b ho ha hb iha ihb=>exact⟨show op≤23 by omega,aOd 2,iha,ihb,trivial⟩
 |cmp d op a b ho ha hb=>exact⟨show op≤23 by omega,aOd 2,ha.low,hb.low,trivial⟩
theorem EJ:∀l:List PS,l.length≤Be l
 |[]=>aOd _
 | s::r=>by
   have:=EJ r;show r.length+1≤PS.cnt s+Be r;have h1:1≤PS.cnt s:=by cases s;show 1≤1+_+_;omega
   omega
theorem jH{s:PS}:∀{l:List PS},s∈l→PS.cnt s≤Be l
 | a::r,h=>by
   show PS.cnt s≤PS.cnt a+Be r;rcases aNx.1 h with rfl|h
   ·omega
   ·have:=jH h;omega
theorem StE.low(ok:c.Ok){d:Nat}{s:PS}(h:StE c np d s):PS.cnt s≤12→s.low:=by
 have nl:Cu []:=trivial;have len {l:List PS} (h:Be l≤12):l.length≤12:=aPx (EJ l) h;have all {l:List PS} (h:Be l≤12) (ih:∀s∈l,PS.cnt s≤12→s.low):Cu l:=aF fun x hx=>ih x hx (aPx (jH hx) h);have par {to h n:Nat} {ar:List Nat} (ha:c.ars[to]?=some ar) (hh:ar[h]?=some n):n≤2:=(ok.each ar (sN ha)).2.2 n (sN hh)
 induction h with
 |setB d e h=>exact fun _=>⟨show 1≤10 by decide,show 1≤4 by decide,⟨h.low,trivial⟩,⟨aOk _,nl⟩,aOk _,nl⟩
 |setX d k e hk h=>exact fun _=>⟨show 1≤10 by decide,show 1≤4 by decide,⟨h.low,trivial⟩,⟨aOk _,nl⟩,aOk _,nl⟩
 |put d a b ht ha hb=>exact fun _=>⟨show 2≤10 by decide,show 2≤4 by decide,⟨ha.low,hb.low,trivial⟩,⟨aOk _,nl⟩,aOk _,nl⟩
 |del d a ht ha=>exact fun _=>⟨show 3≤10 by decide,show 1≤4 by decide,⟨ha.low,trivial⟩,⟨aOk _,nl⟩,aOk _,nl⟩
 | ife d e t l h ht hl iht ihl=>
   intro hc;have hc:1+Be t+Be l≤12:=hc;exact⟨show 4≤10 by decide,show 1≤4 by decide,⟨h.low,trivial⟩,⟨len om,all om iht⟩,len om,all om ihl⟩
 | whl d e t h ht iht=>
   intro hc;have hc:1+Be t+Be []≤12:=hc;exact⟨show 5≤10 by decide,show 1≤4 by decide,⟨h.low,trivial⟩,⟨len om,all om iht⟩,aOk _,nl⟩
 | send d to h ar l ha hh hl=>
   have:=par ha hh;exact fun _=>⟨show 6≤10 by decide,show l.length≤4 by omega,Vf fun x hx=>(hl x hx).low,⟨aOk _,nl⟩,aOk _,nl⟩
 | after d h ar e l ha hh he hl=>
   have:=par ha hh;exact fun _=>⟨show 7≤10 by decide,show l.length+1≤4 by omega,⟨he.low,Vf fun x hx=>(hl x hx).low⟩,⟨aOk _,nl⟩,aOk _,nl⟩
 | store d a b l ha hb hl ihl=>
   intro hc;have hc:1+Be []+Be l≤12:=hc;exact⟨show 8≤10 by decide,show 2≤4 by decide,⟨ha.low,hb.low,trivial⟩,⟨aOk _,nl⟩,len om,all om ihl⟩
 | fetch d k e l hk h hl ihl=>
   intro hc;have hc:1+Be []+Be l≤12:=hc;exact⟨show 9≤10 by decide,show 1≤4 by decide,⟨h.low,trivial⟩,⟨aOk _,nl⟩,len om,all om ihl⟩
 |stop d=>exact fun _=>⟨show 10≤10 by decide,aOk _,trivial,⟨aOk _,nl⟩,aOk _,nl⟩
end
theorem EK(e:Ex)(hlow:e.pure.low)(ih:∀x∈e.args,x.pure.low→Bd Tryz.prog 113 [.agg (Cy x).toArray] [all (x.kids Cy)] (fun v Γ'=>∃e':Ex,v= .agg (Bc e').toArray∧Γ'=[all (e'.kids Bc)]∧e'.pure=x.pure)):
    Bd Tryz.prog 113 [.agg (Cy e).toArray] [all (e.kids Cy)] (fun v Γ'=>∃e':Ex,v= .agg (Bc e').toArray∧Γ'=[all (e'.kids Bc)]∧e'.pure=e.pure):=by
 obtain⟨hop,hal⟩:=Re hlow;refine Ba Tryz.func113 Tryz.ntmps113 fun w0=>?_;refine Js (cz (Jbo fun b1=>?_));refine ae fun b2=>?_;refine Jz 6 ?_;refine Jr (Kg rfl rfl Tryz.underlying3 Tryz.underlying239 (IntWalk.u8_in _ om)) ?_;refine Jz 4 ?_;refine Jr (.bd [ub e.op, .string e.name,iv e.n,nz]) ?_;refine ae fun b3=>?_;refine Jz 5 ?_;refine bv 3 rfl (ros Cy e.A e.args) rfl (Ib e) (Jz 8 ?_);refine Eb (Bc) 241 4 (aDp Bc (Bw (fun s g mz ρ Γ=>∃(Ao:OA) (qo:Nat) (O:List Ex) (k:Nat),ρ=[s 2,s 3,s 15,s 16,(17,nv k)]∧Γ=[g 4,box b3 [ub e.op, .string e.name,iv e.n,vs Ao O qo] 241,g 2,g 6,rows Bc 241 4 Ao qo O,all (Ea Bc O)]∧mz=e.args.length-k∧(k≤e.args.length)∧(Cn O=Cn (e.args.take k))) ⟨⟨none,0,([]:List Ex),0,rfl,rfl,rfl,om,rfl⟩,sb⟩ ?_));rintro mz _ _ ⟨Ao,qo,O,k,rfl,rfl,rfl,hk,hO⟩;have hOl:O.length≤2:=by
  have h:=aOa List.length hO;rw[Bi,aNv,Bi,aNv,aOh]at h;omega
 refine Jz 6 ?_;refine aa rfl ?_ ?_<;>intro c18;obtain⟨x,hx⟩:=ai e.args k om;refine Jz 8 ?_;refine ae fun b5=>?_;refine Jz 3 ?_;refine Bv 4 rfl (x.kids Cy) (Ex.lax Cy x) (Hl hx) (Iw (tel []) mixed.h (Fz 1 3 rfl kr ?_ ?_));refine Je [box b5 (Cy x) 238] [0,2,503,101,204,5505,6,507] (jS (lS 1 rfl) (jP _)) ?_;refine Jz 2 ?_;refine Dl [0] (ih x (sN hx) (Gv hlow (sN hx))) ?_;rintro _ _ ⟨e2,rfl,rfl,he2⟩;refine⟨jS (lS 1 rfl) (jP _),?_⟩;refine Jz 1 ?_;refine En (Bc e2) fun b25=>?_;refine Fw.ge rfl rfl rfl rfl (Bz Gt (i:=7) (j:=0) (el:=e2) rfl SQ rfl rfl rfl rfl rfl om om) ?_;rintro _ _ ⟨A26,q26,rfl,rfl⟩;refine⟨jS (lS 2 rfl) (jP _),?_⟩;refine Jz 1 ?_;refine dh rfl rfl rfl (cu (i:=4) rfl rfl rfl Sg rfl rfl (bt1 rfl)) (jS (lS 2 rfl) (jP _)) ?_;refine Jz 3 ?_;refine aHx (Ig (uZ O e2 (Jz 5 ?_)));refine Bp ⟨⟨A26,q26,(O++[e2]),k+1,rfl,rfl,rfl,om,(by rw[Bi,aOb,←Bi,hO,Cj hx,Bi,Bi,aOb];show _++[e2.pure]=_++[x.pure];rw[he2])⟩,sb⟩;refine Je [box b5 (Cy x) 238] [0,2,101,503,204,5505,6,507] (jS (lS 1 rfl) (jP _)) ?_;refine Jz 3 ?_;refine Dl [0] (ih x (sN hx) (Gv hlow (sN hx))) ?_;rintro _ _ ⟨e2_2,rfl,rfl,he2_2⟩;refine⟨jS (lS 1 rfl) (jP _),?_⟩;refine En (Bc e2_2) fun b25_2=>?_;refine Fw.ge rfl rfl rfl rfl (Bz Gt (i:=7) (j:=0) (el:=e2_2) rfl SQ rfl rfl rfl rfl rfl om om) ?_;rintro _ _ ⟨A26_2,q26_2,rfl,rfl⟩;refine⟨jS (lS 2 rfl) (jP _),?_⟩;refine Jz 1 ?_;refine dh rfl rfl rfl (cu (i:=4) rfl rfl rfl Sg rfl rfl (bt1 rfl)) (jS (lS 2 rfl) (jP _)) ?_;refine Jz 3 ?_;refine aHx (Ig (uZ O e2_2 (Jz 5 ?_)));refine Bp ⟨⟨A26_2,q26_2,(O++[e2_2]),k+1,rfl,rfl,rfl,om,(by rw[Bi,aOb,←Bi,hO,Cj hx,Bi,Bi,aOb];show _++[e2_2.pure]=_++[x.pure];rw[he2_2])⟩,sb⟩;refine Jz 12 ?_;refine Mw (Mw (aDo O (Ec [0] Tryz.results113 ?_)));exact⟨(⟨e.op,e.name,e.n,Ao,qo,O⟩:Ex),rfl,rfl,by rw[El e];show(⟨e.op,e.name,e.n,Cn O⟩:PE)=_;rw[hO,aOq om]⟩
theorem nA:∀e:Ex,e.pure.low→Bd Tryz.prog 113 [.agg (Cy e).toArray] [all (e.kids Cy)] (fun v Γ'=>∃e':Ex,v= .agg (Bc e').toArray∧Γ'=[all (e'.kids Bc)]∧e'.pure=e.pure)
 |e,h=>EK e h (fun x hx=>nA x)
termination_by e=>SizeOf.sizeOf e
decreasing_by
 cases e with
 | mk op s n A q l=>
   have:=aPb (show x∈l from hx);simp only[Ex.mk.sizeOf_spec];omega
def aG(l:List St):vU→List Ad→Prop:=fun v Γ'=>∃(A':OA) (q':Nat) (l':List St),v=vs A' l' q'∧Γ'=[all (lsG Bc Bl A' l')]∧Ai l'=Ai l
theorem EL(l:List St)(ih:∀x∈l,(∀(A:OA) (q:Nat),x.thn.length≤12→Cu (Ai x.thn)→Bd Tryz.prog 77 [vs A x.thn q] [all (lsG Cy Ht A x.thn)] (aG x.thn))∧(∀(A:OA) (q:Nat),x.els.length≤12→Cu (Ai x.els)→Bd Tryz.prog 77 [vs A x.els q] [all (lsG Cy Ht A x.els)] (aG x.els)))(A:OA)(q:Nat)(hl:l.length≤12)(hlow:Cu (Ai l)):
    Bd Tryz.prog 77 [vs A l q] [all (lsG Cy Ht A l)] (aG l):=by
 refine Ba Tryz.func77 Tryz.ntmps77 fun w0=>?_;refine Jz 12 ?_;refine bv 0 rfl (ros Ht A l) rfl (aNu ..) (Jz 7 ?_);refine Eb (Bl) 212 6 (aAp Bc Bl (Bw (fun s g mz ρ Γ=>∃(Ao:OA) (qo:Nat) (O:List St) (k:Nat),ρ=[(3,vs Ao O qo),s 9,s 10,(11,nv k)]∧Γ=[g 2,g 3,rows Bl 212 6 Ao qo O,all (Eh Bc Bl O)]∧mz=l.length-k∧(k≤l.length)∧(Ai O=Ai (l.take k))) ⟨⟨none,0,([]:List St),0,rfl,rfl,rfl,om,rfl⟩,sb⟩ ?_));rintro mz _ _ ⟨Ao,qo,O,k,rfl,rfl,rfl,hk,hO⟩;have hOl:O.length≤12:=by
  have h:=aOa List.length hO;rw[Dg,aNv,Dg,aNv,aOh]at h;omega
 refine Jz 6 ?_;refine aa rfl ?_ ?_<;>intro c12;obtain⟨x,hx⟩:=ai l k om;obtain⟨hxk,⟨hxe,hxl⟩,⟨hxt,hxtl⟩,hxn,hxnl⟩:=Ii (Hy hlow (sN hx));refine Jz 8 ?_;refine ae fun b5=>?_;refine Jz 4 ?_;refine Bv 2 rfl (lsF Cy x.A x.exprs) (Lm _ _ _) (fun c hc=>Hw hx c (Kz x c hc)) (Bv 3 rfl (lsG Cy Ht x.Ae x.els) (Co _ _ _ _) (fun c hc=>Hw hx c (Fe x c hc)) (Bv 4 rfl (lsG Cy Ht x.At x.thn) (Co _ _ _ _) (fun c hc=>Hw hx c (Gn x c hc)) (Uo (T:=(Nat)×(OA)×(Nat)×(List St)×(OA)×(Nat)×(List St)) (fun t=>([(3,vs Ao O qo),(9,vs A l q),(10,nv l.length),(11,nv k),(5,pv b5),(6, .pointer (some ⟨(t.1),0,none⟩))],[ros Ht A l,all (lsG Cy Ht A l),rows Bl 212 6 Ao qo O,all (Eh Bc Bl O),box b5 (Ht x) 218,box (t.1) [ub x.kind, .string x.name, .string x.hand,nz, .slice (t.2.1) (t.2.2.2.1).length (t.2.2.1), .slice (t.2.2.2.2.1) (t.2.2.2.2.2.2).length (t.2.2.2.2.2.1)] 212,all (lsG Bc Bl (t.2.1) (t.2.2.2.1)),all (lsG Bc Bl (t.2.2.2.2.1) (t.2.2.2.2.2.2)),all (lsF Cy x.A x.exprs)])) (fun t=>(Ai (t.2.2.2.1)=Ai x.thn)∧(Ai (t.2.2.2.2.2.2)=Ai x.els)) ?_ ?_)));refine Iw (QI (tel []) (KV [(9,[all (lsG Cy Ht x.At x.thn)],(aG x.thn)),(12,[all (lsG Cy Ht x.Ae x.els)],(aG x.els))])) mixed.h (Fz 14 9 rfl kr ?_ ?_);refine Fz 14 12 rfl kr ?_ ?_;refine Je [box b5 (Ht x) 218] [0,1,2,3,4,5,6,7,8,10,11,509,512,13,214,15515] (jS (lS 3 rfl) (jP _)) ?_;refine Jz 2 ?_;refine df rfl (Kg rfl rfl Tryz.underlying3 Tryz.underlying209 (IntWalk.u8_in _ om)) ?_;refine Jz 8 ?_;refine Dv [0] rfl rfl rfl rfl .fc rfl ((ih x (sN hx)).1 x.At x.qt hxt hxtl) rfl ?_;rintro _ _ ⟨At2,qt2,t2,rfl,rfl,ht2⟩;refine⟨jS (lS 3 rfl) (jP _),?_⟩;refine Dv [1] rfl rfl rfl rfl .fc rfl ((ih x (sN hx)).2 x.Ae x.qe hxn hxnl) rfl ?_;rintro _ _ ⟨Ae2,qe2,e2,rfl,rfl,he2⟩;refine⟨jS (lS 3 rfl) (jP _),?_⟩;refine df rfl (.bd [ub x.kind, .string x.name, .string x.hand,nz,vs At2 t2 qt2,vs Ae2 e2 qe2]) ?_;refine Fw.mk rfl rfl rfl rfl rfl (Mk.alloc rfl z212) ?_;rintro _ _ ⟨b6,rfl,rfl⟩;refine dh rfl rfl rfl (Cf (i:=0) rfl rfl rfl ZQ rfl rfl rfl (bta rfl)) (jS (lS 4 rfl) (jP _)) ?_;refine Jz 2 ?_;refine Md (b6,At2,qt2,t2,Ae2,qe2,e2) ⟨ht2,he2⟩;refine Je [box b5 (Ht x) 218] [0,1,2,3,4,5,6,7,8,10,11,509,214,15512,13,515] (jS (lS 3 rfl) (jP _)) ?_;refine Jz 2 ?_;refine df rfl (Kg rfl rfl Tryz.underlying3 Tryz.underlying209 (IntWalk.u8_in _ om)) ?_;refine Jz 8 ?_;refine Dv [0] rfl rfl rfl rfl .fc rfl ((ih x (sN hx)).1 x.At x.qt hxt hxtl) rfl ?_;rintro _ _ ⟨At2,qt2,t2,rfl,rfl,ht2⟩;refine⟨jS (lS 3 rfl) (jP _),?_⟩;refine Fw.mk rfl rfl rfl rfl rfl (Mk.alloc rfl z212) ?_;rintro _ _ ⟨b6,rfl,rfl⟩;refine Dv [2] rfl rfl rfl rfl .fc rfl ((ih x (sN hx)).2 x.Ae x.qe hxn hxnl) rfl ?_;rintro _ _ ⟨Ae2,qe2,e2,rfl,rfl,he2⟩;refine⟨jS (lS 4 rfl) (jP _),?_⟩;refine df rfl (.bd [ub x.kind, .string x.name, .string x.hand,nz,vs At2 t2 qt2,vs Ae2 e2 qe2]) ?_;refine dh rfl rfl rfl (Cf (i:=1) rfl rfl rfl ZQ rfl rfl rfl (bta rfl)) (jS (lS 4 rfl) (jP _)) ?_;refine Jz 2 ?_;refine Md (b6,At2,qt2,t2,Ae2,qe2,e2) ⟨ht2,he2⟩;refine Je [box b5 (Ht x) 218] [0,1,2,3,4,5,6,7,8,10,11,214,15509,512,13,515] (jS (lS 3 rfl) (jP _)) ?_;refine Jz 2 ?_;refine df rfl (Kg rfl rfl Tryz.underlying3 Tryz.underlying209 (IntWalk.u8_in _ om)) ?_;refine Jz 8 ?_;refine Fw.mk rfl rfl rfl rfl rfl (Mk.alloc rfl z212) ?_;rintro _ _ ⟨b6,rfl,rfl⟩;refine Dv [1] rfl rfl rfl rfl .fc rfl ((ih x (sN hx)).1 x.At x.qt hxt hxtl) rfl ?_;rintro _ _ ⟨At2,qt2,t2,rfl,rfl,ht2⟩;refine⟨jS (lS 4 rfl) (jP _),?_⟩;refine Dv [2] rfl rfl rfl rfl .fc rfl ((ih x (sN hx)).2 x.Ae x.qe hxn hxnl) rfl ?_;rintro _ _ ⟨Ae2,qe2,e2,rfl,rfl,he2⟩;refine⟨jS (lS 4 rfl) (jP _),?_⟩;refine df rfl (.bd [ub x.kind, .string x.name, .string x.hand,nz,vs At2 t2 qt2,vs Ae2 e2 qe2]) ?_;refine dh rfl rfl rfl (Cf (i:=2) rfl rfl rfl ZQ rfl rfl rfl (bta rfl)) (jS (lS 4 rfl) (jP _)) ?_;refine Jz 2 ?_;refine Md (b6,At2,qt2,t2,Ae2,qe2,e2) ⟨ht2,he2⟩;rintro⟨b6,At2,qt2,t2,Ae2,qe2,e2⟩ ⟨ht2,he2⟩;replace ht2:Ai t2=Ai x.thn:=ht2;replace he2:Ai e2=Ai x.els:=he2;dsimp only;refine Js (Js (bv 8 rfl (ros Cy x.A x.exprs) rfl (aNu ..) (Jz 8 ?_)));refine Eb (Bc) 241 4 (aDp Bc (Bw (fun s g mz ρ Γ=>∃(Ax:OA) (qx:Nat) (X:List Ex) (j:Nat),ρ=[s 3,s 9,s 10,s 11,s 6,s 30,s 31,(32,nv j)]∧Γ=[g 3,g 4,g 5,g 6,g 9,g 10,g 11,g 2,box b6 [ub x.kind, .string x.name, .string x.hand,vs Ax X qx,vs At2 t2 qt2,vs Ae2 e2 qe2] 212,rows Bc 241 4 Ax qx X,all (Ea Bc X)]∧mz=x.exprs.length-j∧(j≤x.exprs.length)∧(Cn X=Cn (x.exprs.take j))) ⟨⟨none,0,([]:List Ex),0,rfl,rfl,rfl,om,rfl⟩,sb⟩ ?_));rintro mz _ _ ⟨Ax,qx,X,j,rfl,rfl,rfl,hj,hX⟩;have hXl:X.length≤4:=by
  have h:=aOa List.length hX;rw[Bi,aNv,Bi,aNv,aOh]at h;omega
 refine Jz 6 ?_;refine aa rfl ?_ ?_<;>intro c33;obtain⟨y,hy⟩:=ai x.exprs j om;refine Jz 8 ?_;refine ae fun b8=>?_;refine Jz 3 ?_;refine Bv 7 rfl (y.kids Cy) (Ex.lax Cy y) (Xq hy) (Iw (tel []) mixed.h (Fz 1 3 rfl kr ?_ ?_));refine Je [box b8 (Cy y) 238] [0,2,503,101,204,5505,6,507] (jS (lS 1 rfl) (jP _)) ?_;refine Jz 2 ?_;refine Dl [0] (nA y (Lp hxl (sN hy))) ?_;rintro _ _ ⟨y2,rfl,rfl,hy2⟩;refine⟨jS (lS 1 rfl) (jP _),?_⟩;refine Jz 1 ?_;refine En (Bc y2) fun b40=>?_;refine Fw.ge rfl rfl rfl rfl (Bz Gt (i:=12) (j:=0) (el:=y2) rfl SQ rfl rfl rfl rfl rfl om om) ?_;rintro _ _ ⟨A41,q41,rfl,rfl⟩;refine⟨jS (lS 2 rfl) (jP _),?_⟩;refine Jz 1 ?_;refine dh rfl rfl rfl (cu (i:=11) rfl rfl rfl Sg rfl rfl (bt1 rfl)) (jS (lS 2 rfl) (jP _)) ?_;refine Jz 3 ?_;refine QN (Ig (uZ X y2 (Jz 5 ?_)));refine Bp ⟨⟨A41,q41,(X++[y2]),j+1,rfl,rfl,rfl,om,(by rw[Bi,aOb,←Bi,hX,Cj hy,Bi,Bi,aOb];show _++[y2.pure]=_++[y.pure];rw[hy2])⟩,sb⟩;refine Je [box b8 (Cy y) 238] [0,2,101,503,204,5505,6,507] (jS (lS 1 rfl) (jP _)) ?_;refine Jz 3 ?_;refine Dl [0] (nA y (Lp hxl (sN hy))) ?_;rintro _ _ ⟨y2,rfl,rfl,hy2⟩;refine⟨jS (lS 1 rfl) (jP _),?_⟩;refine En (Bc y2) fun b40=>?_;refine Fw.ge rfl rfl rfl rfl (Bz Gt (i:=12) (j:=0) (el:=y2) rfl SQ rfl rfl rfl rfl rfl om om) ?_;rintro _ _ ⟨A41,q41,rfl,rfl⟩;refine⟨jS (lS 2 rfl) (jP _),?_⟩;refine Jz 1 ?_;refine dh rfl rfl rfl (cu (i:=11) rfl rfl rfl Sg rfl rfl (bt1 rfl)) (jS (lS 2 rfl) (jP _)) ?_;refine Jz 3 ?_;refine QN (Ig (uZ X y2 (Jz 5 ?_)));refine Bp ⟨⟨A41,q41,(X++[y2]),j+1,rfl,rfl,rfl,om,(by rw[Bi,aOb,←Bi,hX,Cj hy,Bi,Bi,aOb];show _++[y2.pure]=_++[y.pure];rw[hy2])⟩,sb⟩;refine Jz 8 ?_;refine Ew [ub x.kind, .string x.name, .string x.hand,vs Ax X qx,vs At2 t2 qt2,vs Ae2 e2 qe2] fun b46=>?_;refine Jge rfl rfl rfl (Bz Ia (i:=3) (j:=0) (el:=(⟨x.kind,x.name,x.hand,Ax,qx,X,At2,qt2,t2,Ae2,qe2,e2⟩:St)) rfl aJf rfl rfl rfl rfl rfl om om) ?_;rintro _ _ ⟨A47,q47,rfl,rfl⟩;refine Jz 4 ?_;refine Qu (Qu (aDo X (Zb (Zb (Ig (aKk (⟨x.kind,x.name,x.hand,Ax,qx,X,At2,qt2,t2,Ae2,qe2,e2⟩:St) (Mw (Kj (UE O (⟨x.kind,x.name,x.hand,Ax,qx,X,At2,qt2,t2,Ae2,qe2,e2⟩:St) (Jz 5 ?_))))))))));refine Bp ⟨⟨A47,q47,(O++[(⟨x.kind,x.name,x.hand,Ax,qx,X,At2,qt2,t2,Ae2,qe2,e2⟩:St)]),k+1,rfl,rfl,rfl,om,(by rw[Dg,aOb,←Dg,hO,Cj hx,Dg,Dg,aOb];show _++[(⟨x.kind,x.name,x.hand,Cn X,Ai t2,Ai e2⟩:PS)]=_++[x.pure];rw[hX,aOq (l:=x.exprs) om,ht2,he2,←Ir x])⟩,sb⟩;refine Jz 12 ?_;refine Fj (Fj (aAo O (Cb (Ci (ak Tryz.results77 ?_)))));exact⟨Ao,qo,O,rfl,rfl,by rw[hO,aOq om]⟩
theorem cZ:∀l:List St,∀(A:OA) (q:Nat),l.length≤12→Cu (Ai l)→Bd Tryz.prog 77 [vs A l q] [all (lsG Cy Ht A l)] (aG l)
 |l,A,q,h1,h2=>EL l (fun x hx=>⟨cZ x.thn,cZ x.els⟩) A q h1 h2
termination_by l=>SizeOf.sizeOf l
decreasing_by
 all_goals
  have h:=aPb hx;have:SizeOf.sizeOf x.thn<SizeOf.sizeOf x∧SizeOf.sizeOf x.els<SizeOf.sizeOf x:=by cases x;simp only[St.mk.sizeOf_spec];omega
  omega
end Go.Proofs.YtihgdnjkofpgiaaGreatDoor
namespace Go.Sep
open Go.RowKit Go.Flow Go.Mem
theorem dA{P:pG}{o:Oper}{ρ:Bj}{Γ:List Ad}{x y:Operand}{α:Type}{enc:α→List vU}{size:Nat}(E:Enc enc size){t e:tI}{bytes:Nat}{zs:List vU}{B:OA}{cb:Nat}{m:List α}(ho:o.op= .call {callee:= .builtin .append,args:=#[x,y],argTypes:=#[t,t]})(ht:Ce P t e size bytes zs)
    (hx:ev ρ x=some (nz)) (hy:ev ρ y=some (vs B m cb)) (hs:∀w,oks Γ w→Src w B (m.flatMap enc)) (h63:m.length≤9223372036854775807) (hby:m.length*bytes≤140737488355328):
    Mk P o ρ Γ (fun v N=>∃A' cap',v=vs A' m cap'∧N=[rows enc e size A' cap' m]):=by
 rcases Nat.eq_zero_or_pos m.length with h0|h0
 · have hm:m=[]:=aQd h0
   subst hm;intro a w ha hG;have hrd:=Uk (P:=P) (Γ:=Γ) ho ht hx hy h0 (aOd 0) a w ha hG;refine⟨.slice none 0 0,[rows enc e size none 0 ([]:List α)],w,hrd,⟨none,0,rfl,rfl⟩,⟨⟨fun c hc=>?_,by simp[owns,rows,row,Ik],by simp[reads,rows,row]⟩,Fv.refl _ _,fun g hg=>by simp[owns,rows,row,Ik]at hg,by simp[reads,rows,row]⟩⟩;rw[aNz.1 hc];exact World.ownsRow_nil w 0 e size
 ·exact aT E ho ht hx hy hs h0 h63 hby
end Go.Sep
namespace Go.Proofs.YtihgdnjkofpgiaaGreatDoor
open Go.RowKit Go.Flow Go.Mem Go.Sep Go.In
section
variable{C:Cx}{ρ:Bj}{Γ:List Ad}{K:Act→wD→Prop}
theorem Rv{α:Type}{f:α→List Ad}(O:List α)(x:α)(k:To C ρ (all ((O++[x]).flatMap f)::Γ) K):To C ρ (all (f x)::all (O.flatMap f)::Γ) K:=by
 refine bz (aPd _ _ _) (Ko ?_);rw[aPm,show[x].flatMap f=f x from aOo _]at k;exact k
theorem aFz(k:Xm)(h:Hd){ty:tI}(kk:To C ρ (all (h.kids k)::Γ) K):To C ρ (rows Da ty 1 h.Ap h.qp h.ps::all (lsG k.f k.g h.Ab h.body)::Γ) K:=Dp (Cw kk)
theorem aGa(k:Xm)(v:Vs){ty:tI}(kk:To C ρ (all (v.kids k)::Γ) K):To C ρ (rows Iu ty 3 v.A v.q v.l::all (v.l.flatMap (Hd.kids k))::Γ) K:=Dp (Cw kk)
theorem aGb(k:Xm)(c:Cm){t1 t2:tI}{z:Nat}(kk:To C ρ (all (c.kids k)::Γ) K):To C ρ (rows k.v t1 z c.Av c.qv c.vars::rows Fb t2 1 c.An c.qn c.vers::all (c.vers.flatMap (Vs.kids k))::Γ) K:=by
 refine Dp (bz (Γ':=rows Fb t2 1 c.An c.qn c.vers::all (c.vers.flatMap (Vs.kids k))::ros k.v c.Av c.vars::Γ) ?_ (Dp (Cw ?_)))
 ·exact(aOl (l₁:=[_,_])).symm
 exact bz (aPd _ _ _) (Cw kk)
theorem aGc(k:Xm)(f:Fl){t1 t2 t3:tI}(kk:To C ρ (all (f.kids k)::Γ) K):To C ρ (rows Gb t1 2 f.Af f.qf f.flags::rows Jj t2 3 f.Al f.ql f.links::rows Gu t3 3 f.Ac f.qc f.comps::all (f.comps.flatMap (Cm.kids k))::Γ) K:=by
 refine Dp (bz (Γ':=rows Jj t2 3 f.Al f.ql f.links::rows Gu t3 3 f.Ac f.qc f.comps::all (f.comps.flatMap (Cm.kids k))::ros Gb f.Af f.flags::Γ) ?_ (Dp ?_))
 ·exact(aOl (l₁:=[_,_,_])).symm
 refine bz (Γ':=rows Gu t3 3 f.Ac f.qc f.comps::all (f.comps.flatMap (Cm.kids k))::ros Jj f.Al f.links::ros Gb f.Af f.flags::Γ) ?_ (Dp (Cw (bz (aPd _ _ _) (Cw ?_))))
 ·exact(aOl (l₁:=[_,_])).symm
 exact bz (aPd _ _ _) (Cw kk)
end
theorem yL{C:Cx}{ρ:Bj}{Γ:List Ad}{K:Act→wD→Prop}{α:Type}{enc:α→List vU}{e:tI}{size cap:Nat}{A:OA}{l:List α}(i:Nat)(hi:Γ[i]?=some (rows enc e size A cap l))(k:l.length≤cap→To C ρ Γ K):To C ρ Γ K:=pM (fun w hw=>by
 obtain⟨A',c',h,_,h2,_⟩:=Im (hw.each _ (sN hi));injection h with _ _ h;rw[h];exact h2) k
def Vs.Cap(v:Vs):Prop:=v.l.length≤v.q∧∀h∈v.l,h.ps.length≤h.qp
def Cm.Cap(c:Cm):Prop:=(c.vars.length≤c.qv∧c.vers.length≤c.qn)∧∀v∈c.vers,v.Cap
def Fl.Cap(F:Fl):Prop:=(F.flags.length≤F.qf∧F.links.length≤F.ql∧F.comps.length≤F.qc)∧∀c∈F.comps,c.Cap
theorem Ta{α:Type}{p:α→Prop}{l:List α}{x:α}(h:∀y∈l,p y)(hx:p x):∀y∈l++[x],p y:=fun y hy=>(aPi.1 hy).elim (h y) fun hy=>by rw[aNz.1 hy];exact hx
section
variable{k:Xm}{F:Fl}{c:Cm}{v:Vs}{h:Hd}{i:Nat}
theorem Mj:ros Gb F.Af F.flags∈F.kids k:=aNu ..
theorem Ml:ros Jj F.Al F.links∈F.kids k:=aNs _ (aNu ..)
theorem Gj:ros Gu F.Ac F.comps∈F.kids k:=aNs _ (aNs _ (aNu ..))
theorem Dh(hc:F.comps[i]?=some c):∀z∈c.kids k,z∈F.kids k:=fun z hz=>aNs _ (aNs _ (aNs _ (aOs.2 ⟨c,sN hc,hz⟩)))
theorem Nc:ros k.v c.Av c.vars∈c.kids k:=aNu ..
theorem Ij:ros Fb c.An c.vers∈c.kids k:=aNs _ (aNu ..)
theorem Gw(hv:c.vers[i]?=some v):∀z∈v.kids k,z∈c.kids k:=fun z hz=>aNs _ (aNs _ (aOs.2 ⟨v,sN hv,hz⟩))
theorem Qs:ros Iu v.A v.l∈v.kids k:=aNu ..
theorem Px(hh:v.l[i]?=some h):∀z∈h.kids k,z∈v.kids k:=fun z hz=>aNs _ (aOs.2 ⟨h,sN hh,hz⟩)
theorem Yr:ros Da h.Ap h.ps∈h.kids k:=aNu ..
theorem Nf:∀z∈lsG k.f k.g h.Ab h.body,z∈h.kids k:=fun z hz=>aNs _ hz
end
structure aGd(F:Fl):Prop where
 flags:F.flags.length≤2
 links:F.links.length≤9
 comps:F.comps.length≤3
 vars:∀c∈F.comps,c.vars.length≤5∧∀v∈c.vars,v.ty≤3
 vers:∀c∈F.comps,c.vers.length≤2∧∀v∈c.vers,v.l.length≤3∧∀h∈v.l,h.ps.length≤2∧h.body.length≤12∧Cu (Ai h.body)
theorem EM(F:Fl)(hF:aGd F):
    Bd Tryz.prog 43 [.agg (cF F []).toArray] [all (F.kids eR)] (fun v Γ'=>∃F':Fl,v= .agg F'.cells.toArray∧Γ'=[all (F'.kids eX)]∧F'.Cap∧F'.pure=F.pure):=by
 have hfl:=hF.flags;have hlk:=hF.links;have hcm:=hF.comps;refine Ba Tryz.func43 Tryz.ntmps43 fun w0=>?_;refine Js (cz (Jbo fun b1=>?_));refine ae fun b2=>?_;refine Jz 6 ?_;refine Jr (.bd [.string F.name,nz,nz,nz]) ?_;refine ae fun b3=>?_;refine Jz 5 ?_;refine bv 3 rfl (ros Gb F.Af F.flags) rfl (Mj) (Jz 8 ?_);refine Eb (Gb) 169 2 (Bw (fun s g mz ρ Γ=>∃(Af:OA) (qf:Nat) (Fs:List Fg) (kf:Nat),ρ=[s 1,s 2,s 3,(22,vs F.Af F.flags F.qf),s 23,(24,nv kf)]∧Γ=[g 4,g 3,box b3 [.string F.name,vs Af Fs qf,nz,nz] 74,ros Gb F.Af F.flags,g 5,rows Gb 169 2 Af qf Fs]∧mz=F.flags.length-kf∧(kf≤F.flags.length)∧(Fs=F.flags.take kf)) ⟨⟨none,0,([]:List Fg),0,rfl,rfl,rfl,om,rfl⟩,sb⟩ ?_);rintro mz _ _ ⟨Af,qf,Fs,kf,rfl,rfl,rfl,hkf,hFs⟩;have hFl:Fs.length≤2:=by rw[hFs,aOh];omega
 refine Jz 6 ?_;refine aa rfl ?_ ?_<;>intro c25;obtain⟨y,hy⟩:=ai F.flags kf om;refine Jz 8 ?_;refine ae fun b5=>?_;refine Jz 10 ?_;refine Jr (.bd [.string y.name, .bool y.init]) ?_;refine Ew [.string y.name, .bool y.init] fun b35=>?_;refine Jge rfl rfl rfl (Bz mK (i:=7) (j:=0) (el:=y) rfl s70 rfl rfl rfl rfl rfl om om) ?_;rintro _ _ ⟨A36,q36,rfl,rfl⟩;refine Jz 10 ?_;refine Bp ⟨⟨A36,q36,(Fs++[y]),kf+1,rfl,rfl,rfl,om,(by rw[Cj hy,←hFs])⟩,sb⟩;refine Jz 7 ?_;refine bv 4 rfl (ros Jj F.Al F.links) rfl (Ml) (Jz 8 ?_);refine Eb (Jj) 162 3 (Bw (fun s g mz ρ Γ=>∃(Al:OA) (ql:Nat) (Ls:List Lk) (kl:Nat),ρ=[s 1,s 2,s 3,(40,vs F.Al F.links F.ql),s 41,(42,nv kl)]∧Γ=[g 2,g 3,box b3 [.string F.name,vs Af Fs qf,vs Al Ls ql,nz] 74,g 7,ros Jj F.Al F.links,g 6,rows Jj 162 3 Al ql Ls]∧mz=F.links.length-kl∧(kl≤F.links.length)∧(Ls=F.links.take kl)) ⟨⟨none,0,([]:List Lk),0,rfl,rfl,rfl,om,rfl⟩,sb⟩ ?_);rintro mz _ _ ⟨Al,ql,Ls,kl,rfl,rfl,rfl,hkl,hLs⟩;have hLl:Ls.length≤9:=by rw[hLs,aOh];omega
 refine Jz 6 ?_;refine aa rfl ?_ ?_<;>intro c43;obtain⟨y,hy⟩:=ai F.links kl om;refine Jz 8 ?_;refine ae fun b7=>?_;refine Jz 12 ?_;refine Jr (.bd [.string y.src, .string y.dst,iv y.lat]) ?_;refine Ew [.string y.src, .string y.dst,iv y.lat] fun b55=>?_;refine Jge rfl rfl rfl (Bz mM (i:=8) (j:=0) (el:=y) rfl s71 rfl rfl rfl rfl rfl om om) ?_;rintro _ _ ⟨A56,q56,rfl,rfl⟩;refine Jz 10 ?_;refine Bp ⟨⟨A56,q56,(Ls++[y]),kl+1,rfl,rfl,rfl,om,(by rw[Cj hy,←hLs])⟩,sb⟩;refine Jz 7 ?_;refine bv 5 rfl (ros Gu F.Ac F.comps) rfl (Gj) (Jz 8 ?_);refine Eb (Gu) 107 3 (Hz (Bw (fun s g mz ρ Γ=>∃(Ac:OA) (qc:Nat) (O:List Cm) (k:Nat),ρ=[s 2,s 3,(60,vs F.Ac F.comps F.qc),s 61,(62,nv k)]∧Γ=[g 4,box b3 [.string F.name,vs Af Fs qf,vs Al Ls ql,vs Ac O qc] 74,g 6,g 9,ros Gu F.Ac F.comps,g 8,rows Gu 107 3 Ac qc O,all (List.flatMap (Cm.kids eX) O)]∧mz=F.comps.length-k∧(k≤F.comps.length)∧(O.map Cm.pure=(F.comps.take k).map Cm.pure)∧(∀x∈O,x.Cap)) ⟨⟨none,0,([]:List Cm),0,rfl,rfl,rfl,om,rfl,(fun _ h=>nomatch h)⟩,sb⟩ ?_));rintro mz _ _ ⟨Ac,qc,O,k,rfl,rfl,rfl,hk,hO,hOc⟩;have hOl:O.length≤3:=by have h:=aOa List.length hO;rw[aNv,aNv,aOh]at h;omega
 refine Jz 6 ?_;refine aa rfl ?_ ?_<;>intro c63;obtain⟨c,hc⟩:=ai F.comps k om;obtain⟨hcv,hcy⟩:=hF.vars c (sN hc);obtain⟨hcw,hcz⟩:=hF.vers c (sN hc);refine Jz 8 ?_;refine ae fun b9=>?_;refine Jz 7 ?_;refine Jr (.bd [.string c.name,nz,nz]) ?_;refine ae fun b10=>?_;refine Jz 5 ?_;refine Bv 7 rfl (c.kids eR) (Cm.lax eR c) (Dh hc) (bv 0 rfl (ros Qw c.Av c.vars) rfl (Nc) (Jz 8 ?_));refine Eb (He) 92 3 (Bw (fun s g mz ρ Γ=>∃(Av:OA) (qv:Nat) (V:List Vr) (j:Nat),ρ=[s 2,s 3,s 60,s 61,s 62,s 9,s 10,(70,vs c.Av c.vars c.qv),s 71,(72,nv j)]∧Γ=[g 5,g 6,g 7,g 8,g 9,g 10,g 11,g 12,g 4,box b10 [.string c.name,vs Av V qv,nz] 107,ros Qw c.Av c.vars,g 2,rows He 92 3 Av qv V]∧mz=c.vars.length-j∧(j≤c.vars.length)∧(V=c.vars.take j)) ⟨⟨none,0,([]:List Vr),0,rfl,rfl,rfl,om,rfl⟩,sb⟩ ?_);rintro mz _ _ ⟨Av,qv,V,j,rfl,rfl,rfl,hj,hV⟩;have hVl:V.length≤5:=by rw[hV,aOh];omega
 refine Jz 6 ?_;refine aa rfl ?_ ?_<;>intro c73;obtain⟨y,hy⟩:=ai c.vars j om;have hy3:=hcy y (sN hy);refine Jz 8 ?_;refine ae fun b12=>?_;refine Jz 10 ?_;refine Jr (Kg rfl rfl Tryz.underlying3 Tryz.underlying90 (IntWalk.u8_in _ om)) ?_;refine Jz 2 ?_;refine Jr (.bd [.string y.name,ub y.ty,iv y.init]) ?_;refine Ew [.string y.name,ub y.ty,iv y.init] fun b86=>?_;refine Jge rfl rfl rfl (Bz yD (i:=14) (j:=0) (el:=y) rfl s88 rfl rfl rfl rfl rfl om om) ?_;rintro _ _ ⟨A87,q87,rfl,rfl⟩;refine Jz 10 ?_;refine Bp ⟨⟨A87,q87,(V++[y]),j+1,rfl,rfl,rfl,om,(by rw[Cj hy,←hV])⟩,sb⟩;refine Jz 7 ?_;refine bv 11 rfl (ros Fb c.An c.vers) rfl (Ij) (Jz 8 ?_);refine Eb (Fb) 117 1 (Hz (Bw (fun s g mz ρ Γ=>∃(Aw:OA) (qw:Nat) (W:List Vs) (jw:Nat),ρ=[s 2,s 3,s 60,s 61,s 62,s 10,s 91,s 92,(93,nv jw)]∧Γ=[g 3,g 4,g 5,g 6,g 7,g 8,g 9,g 10,box b10 [.string c.name,vs Av V qv,vs Aw W qw] 107,g 15,g 2,g 14,rows Fb 117 1 Aw qw W,all (List.flatMap (Vs.kids eX) W)]∧mz=c.vers.length-jw∧(jw≤c.vers.length)∧(W.map Vs.pure=(c.vers.take jw).map Vs.pure)∧(∀x∈W,x.Cap)) ⟨⟨none,0,([]:List Vs),0,rfl,rfl,rfl,om,rfl,(fun _ h=>nomatch h)⟩,sb⟩ ?_));rintro mz _ _ ⟨Aw,qw,W,jw,rfl,rfl,rfl,hjw,hW,hWc⟩;have hWl:W.length≤2:=by have h:=aOa List.length hW;rw[aNv,aNv,aOh]at h;omega
 refine Jz 6 ?_;refine aa rfl ?_ ?_<;>intro c94;obtain⟨v,hv⟩:=ai c.vers jw om;obtain⟨hvl,hvh⟩:=hcz v (sN hv);refine Jz 13 ?_;refine ae fun b15=>?_;refine Jz 4 ?_;refine Bv 12 rfl (v.kids eR) (Vs.lax eR v) (Gw hv) (bv 0 rfl (ros Iu v.A v.l) rfl (Qs) (Jz 7 ?_));refine Eb (Iu) 120 3 (Hz (Bw (fun s g mz ρ Γ=>∃(Ah:OA) (qh:Nat) (H:List Hd) (i:Nat),ρ=[s 2,s 3,s 60,s 61,s 62,s 10,s 91,s 92,s 93,s 15,s 97,s 98,(99,nv i)]∧Γ=[g 5,g 6,g 7,g 8,g 9,g 10,g 11,g 12,g 13,g 14,g 15,g 16,g 17,g 18,box b15 [vs Ah H qh] 117,g 2,g 3,rows Iu 120 3 Ah qh H,all (List.flatMap (Hd.kids eX) H)]∧mz=v.l.length-i∧(i≤v.l.length)∧(H.map Hd.pure=(v.l.take i).map Hd.pure)∧(∀x∈H,x.ps.length≤x.qp)) ⟨⟨none,0,([]:List Hd),0,rfl,rfl,rfl,om,rfl,(fun _ h=>nomatch h)⟩,sb⟩ ?_));rintro mz _ _ ⟨Ah,qh,H,i,rfl,rfl,rfl,hi,hH,hHc⟩;have hHl:H.length≤3:=by have h0:=aOa List.length hH;rw[aNv,aNv,aOh]at h0;omega
 refine Jz 6 ?_;refine aa rfl ?_ ?_<;>intro aMh;obtain⟨h,hh⟩:=ai v.l i om;obtain⟨hhp,hhb,hhl⟩:=hvh h (sN hh);refine Jz 3 ?_;refine Uo (T:=(OA)×(Nat)×(OA)×(Nat)×(List St)×(OA)×(Nat)) (fun t=>([(2,pv b2),(3,pv b3),(60,vs F.Ac F.comps F.qc),(61,nv F.comps.length),(62,nv k),(10,pv b10),(91,vs c.An c.vers c.qn),(92,nv c.vers.length),(93,nv jw),(15,pv b15),(97,vs v.A v.l v.q),(98,nv v.l.length),(99,nv i)],[box b2 [.string bE,nz,nz,nz] 74,box b3 [.string F.name,vs Af Fs qf,vs Al Ls ql,vs Ac O qc] 74,rows Gb 169 2 Af qf Fs,rows Jj 162 3 Al ql Ls,ros Gu F.Ac F.comps,all (F.kids eR),rows Gu 107 3 Ac qc O,all (List.flatMap (Cm.kids eX) O),box b10 [.string c.name,vs Av V qv,vs Aw W qw] 107,rows He 92 3 Av qv V,ros Fb c.An c.vers,all (c.kids eR),rows Fb 117 1 Aw qw W,all (List.flatMap (Vs.kids eX) W),box b15 [vs (t.2.2.2.2.2.1) (H++[(⟨h.name,(t.1),(t.2.1),h.ps,(t.2.2.1),(t.2.2.2.1),(t.2.2.2.2.1)⟩:Hd)]) (t.2.2.2.2.2.2)] 117,ros Iu v.A v.l,all (v.kids eR),rows Da 9 1 (t.1) (t.2.1) h.ps,all (lsG Bc Bl (t.2.2.1) (t.2.2.2.2.1)),rows Iu 120 3 (t.2.2.2.2.2.1) (t.2.2.2.2.2.2) (H++[(⟨h.name,(t.1),(t.2.1),h.ps,(t.2.2.1),(t.2.2.2.1),(t.2.2.2.2.1)⟩:Hd)]),all (List.flatMap (Hd.kids eX) H)])) (fun t=>(Ai (t.2.2.2.2.1)=Ai h.body)) ?_ ?_;refine Jz 5 ?_;refine ae fun b17=>?_;refine Jz 3 ?_;refine Bv 17 rfl (h.kids eR) (Hd.lax eR h) (Px hh) (Bv 0 rfl (lsG Cy Ht h.Ab h.body) (Co _ _ _ _) (Nf (k:=eR)) (bv 1 rfl (ros Da h.Ap h.ps) rfl (Yr) (Iw (QI (tel []) (KV [(9,[all (lsG Cy Ht h.Ab h.body)],(aG h.body))])) mixed.h (Fz 1 9 rfl kr ?_ ?_))));refine Je [box b17 [.string h.name,vs h.Ap h.ps h.qp,vs h.Ab h.body h.qb] 114] [0,2,3,4,5,7,8,206,7509,10,101,211,12512,13,514] (jS (lS 3 rfl) (jP _)) ?_;refine Jz 7 ?_;refine Fw.mk rfl rfl rfl rfl rfl (dA Di (m:=h.ps) rfl s54 rfl rfl (lS (c:=ros Da h.Ap h.ps) 0 rfl) om om) ?_;rintro _ _ ⟨Ap2,qp2,rfl,rfl⟩;refine Dv [2] rfl rfl rfl rfl .fc rfl (cZ h.body h.Ab h.qb hhb hhl) rfl ?_;rintro _ _ ⟨Ab2,qb2,hb2,rfl,rfl,hbp⟩;refine⟨jS (lS 4 rfl) (jP _),?_⟩;refine df rfl (.bd [.string h.name,vs Ap2 h.ps qp2,vs Ab2 hb2 qb2]) ?_;refine Jz 1 ?_;refine En [.string h.name,vs Ap2 h.ps qp2,vs Ab2 hb2 qb2] fun b114=>?_;refine Fw.ge rfl rfl rfl rfl (Bz Yn (i:=23) (j:=0) (el:=(⟨h.name,Ap2,qp2,h.ps,Ab2,qb2,hb2⟩:Hd)) rfl ZP rfl rfl rfl rfl rfl om om) ?_;rintro _ _ ⟨A115,q115,rfl,rfl⟩;refine⟨jS (lS 5 rfl) (jP _),?_⟩;refine Jz 1 ?_;refine dh rfl rfl rfl (cu (i:=20) rfl rfl rfl aJe rfl rfl (bta rfl)) (jS (lS 5 rfl) (jP _)) ?_;refine Jz 3 ?_;refine Md (Ap2,qp2,Ab2,qb2,hb2,A115,q115) hbp;refine Je [box b17 [.string h.name,vs h.Ap h.ps h.qp,vs h.Ab h.body h.qb] 114] [0,2,3,4,5,7,8,101,206,7509,10,211,12512,13,514] (jS (lS 3 rfl) (jP _)) ?_;refine Jz 8 ?_;refine Fw.mk rfl rfl rfl rfl rfl (dA Di (m:=h.ps) rfl s54 rfl rfl (lS (c:=ros Da h.Ap h.ps) 0 rfl) om om) ?_;rintro _ _ ⟨Ap2,qp2,rfl,rfl⟩;refine Dv [2] rfl rfl rfl rfl .fc rfl (cZ h.body h.Ab h.qb hhb hhl) rfl ?_;rintro _ _ ⟨Ab2,qb2,hb2,rfl,rfl,hbp⟩;refine⟨jS (lS 4 rfl) (jP _),?_⟩;refine df rfl (.bd [.string h.name,vs Ap2 h.ps qp2,vs Ab2 hb2 qb2]) ?_;refine En [.string h.name,vs Ap2 h.ps qp2,vs Ab2 hb2 qb2] fun b114=>?_;refine Fw.ge rfl rfl rfl rfl (Bz Yn (i:=23) (j:=0) (el:=(⟨h.name,Ap2,qp2,h.ps,Ab2,qb2,hb2⟩:Hd)) rfl ZP rfl rfl rfl rfl rfl om om) ?_;rintro _ _ ⟨A115,q115,rfl,rfl⟩;refine⟨jS (lS 5 rfl) (jP _),?_⟩;refine Jz 1 ?_;refine dh rfl rfl rfl (cu (i:=20) rfl rfl rfl aJe rfl rfl (bta rfl)) (jS (lS 5 rfl) (jP _)) ?_;refine Jz 3 ?_;refine Md (Ap2,qp2,Ab2,qb2,hb2,A115,q115) hbp;rintro⟨Ap2,qp2,Ab2,qb2,hb2,Ah2,qh2⟩ hbp;replace hbp:Ai hb2=Ai h.body:=hbp;dsimp only;refine yL 17 rfl (fun hzc=>?_);refine GX (GX (aFz eX (⟨h.name,Ap2,qp2,h.ps,Ab2,qb2,hb2⟩:Hd) (wJ (Kj (Rv H (⟨h.name,Ap2,qp2,h.ps,Ab2,qb2,hb2⟩:Hd) (Jz 5 ?_))))));refine Bp ⟨⟨Ah2,qh2,(H++[(⟨h.name,Ap2,qp2,h.ps,Ab2,qb2,hb2⟩:Hd)]),i+1,rfl,rfl,rfl,om,(by rw[aOb,hH,Cj hh,aOb];show _++[(⟨h.name,h.ps,Ai hb2⟩:PH)]=_++[Hd.pure h];rw[hbp];rfl),(Ta hHc hzc)⟩,sb⟩;refine Jz 9 ?_;refine Ew [vs Ah H qh] fun b121=>?_;refine Jge rfl rfl rfl (Bz Ru (i:=13) (j:=0) (el:=(⟨Ah,qh,H⟩:Vs)) rfl ZO rfl rfl rfl rfl rfl om om) ?_;rintro _ _ ⟨A122,q122,rfl,rfl⟩;refine Jz 5 ?_;refine yL 18 rfl (fun hhc=>?_);refine wJ (wJ (aGa eX (⟨Ah,qh,H⟩:Vs) (pV (Kj (Rv W (⟨Ah,qh,H⟩:Vs) (Jz 5 ?_))))));refine Bp ⟨⟨A122,q122,(W++[(⟨Ah,qh,H⟩:Vs)]),jw+1,rfl,rfl,rfl,om,(by rw[aOb,hW,Cj hv,aOb];show _++[H.map Hd.pure]=_++[v.l.map Hd.pure];rw[hH,aOq (l:=v.l) om]),(Ta hWc ⟨hhc,hHc⟩)⟩,sb⟩;refine Jz 9 ?_;refine Ew [.string c.name,vs Av V qv,vs Aw W qw] fun b128=>?_;refine Jge rfl rfl rfl (Bz jE (i:=7) (j:=0) (el:=(⟨c.name,Av,qv,V,Aw,qw,W⟩:Cm)) rfl s72 rfl rfl rfl rfl rfl om om) ?_;rintro _ _ ⟨A129,q129,rfl,rfl⟩;refine Jz 5 ?_;refine yL 10 rfl (fun hvc=>?_);refine yL 13 rfl (fun hwc=>?_);refine GV (GV (aDa (aGb eX (⟨c.name,Av,qv,V,Aw,qw,W⟩:Cm) (aEr (Kj (Rv O (⟨c.name,Av,qv,V,Aw,qw,W⟩:Cm) (Jz 5 ?_)))))));refine Bp ⟨⟨A129,q129,(O++[(⟨c.name,Av,qv,V,Aw,qw,W⟩:Cm)]),k+1,rfl,rfl,rfl,om,(by rw[aOb,hO,Cj hc,aOb];show _++[(⟨c.name,V,W.map Vs.pure⟩:PC)]=_++[Cm.pure c];rw[hV,hW,aOq (l:=c.vars) om,aOq (l:=c.vers) om];rfl),(Ta hOc ⟨⟨hvc,hwc⟩,hWc⟩)⟩,sb⟩;refine Jz 12 ?_;refine yL 2 rfl (fun hfc=>?_);refine yL 3 rfl (fun hlc=>?_);refine yL 6 rfl (fun hcc=>?_);refine Zb (Zb (Mw (Mw (aGc eX (⟨F.name,Af,qf,Fs,Al,ql,Ls,Ac,qc,O⟩:Fl) (Ec [0] Tryz.results43 ?_)))));exact⟨(⟨F.name,Af,qf,Fs,Al,ql,Ls,Ac,qc,O⟩:Fl),rfl,rfl,⟨⟨hfc,hlc,hcc⟩,hOc⟩,by show(⟨F.name,Fs,Ls,O.map Cm.pure⟩:PF)=⟨F.name,F.flags,F.links,F.comps.map Cm.pure⟩;rw[hFs,hLs,hO,aOq (l:=F.flags) om,aOq (l:=F.links) om,aOq (l:=F.comps) om]⟩
end Go.Proofs.YtihgdnjkofpgiaaGreatDoor

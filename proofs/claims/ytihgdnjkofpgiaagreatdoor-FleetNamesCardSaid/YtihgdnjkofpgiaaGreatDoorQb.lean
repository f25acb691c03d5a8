/- Own text. -/
import Derived.Test.YtihgdnjkofpgiaaGreatDoorHa
import Derived.Test.YtihgdnjkofpgiaaGreatDoorBa
set_option maxHeartbeats 8000000
set_option maxRecDepth 100000
set_option linter.unusedVariables false
set_option linter.unusedSimpArgs false
namespace Go.Proofs.YtihgdnjkofpgiaaGreatDoor
open Go.RowKit Go.Flow Go.Mem Go.Sep Go.In
def lsF(f:Ex→List vU)(A:OA)(l:List Ex):List Ad:=ros f A l::Eh f l
def lsG(f:Ex→List vU)(g:St→List vU)(A:OA)(l:List St):List Ad:=ros g A l::Ep f g l
theorem FL(f:Ex→List vU)(O:List Ex)(e:Ex):Eh f (O++[e])=Eh f O++e.kids f:=by
 rw[Kt,Kt,aQs];show _++(e.kids f++[])=_;rw[aPw]
theorem FM(f:Ex→List vU)(g:St→List vU)(O:List St)(e:St):Ep f g (O++[e])=Ep f g O++e.kids f g:=by
 rw[Md,Md,aQs];show _++(e.kids f g++[])=_;rw[aPw]
section
variable{C:Cx}{ρ:Bo}{Γ:List Ad}{K:Act→wD→Prop}{A:OA}{ty:tI}{q:Nat}
theorem wF{f:Ex→List vU}(O:List Ex)(e:Ex)(k:To C ρ (all (Eh f (O++[e]))::Γ) K):To C ρ (all (e.kids f)::all (Eh f O)::Γ) K:=
 cz (aQn _ _ _) (Ku (by rw[←FL];exact k))
theorem VD{f:Ex→List vU}{g:St→List vU}(O:List St)(e:St)(k:To C ρ (all (Ep f g (O++[e]))::Γ) K):To C ρ (all (e.kids f g)::all (Ep f g O)::Γ) K:=
 cz (aQn _ _ _) (Ku (by rw[←FM];exact k))
theorem aEr{f:Ex→List vU}{z:Nat}(l:List Ex)(k:To C ρ (all (lsF f A l)::Γ) K):To C ρ (rows f ty z A q l::all (Eh f l)::Γ) K:=Dt (Cz k)
theorem aBp{f:Ex→List vU}{g:St→List vU}{z:Nat}(l:List St)(k:To C ρ (all (lsG f g A l)::Γ) K):To C ρ (rows g ty z A q l::all (Ep f g l)::Γ) K:=Dt (Cz k)
theorem aEs(f:Ex→List vU)(k:To C ρ (all (Eh f [])::Γ) K):To C ρ Γ K:=Hz k
theorem aBq(f:Ex→List vU)(g:St→List vU)(k:To C ρ (all (Ep f g [])::Γ) K):To C ρ Γ K:=Hz k
theorem aLw{f:Ex→List vU}{g:St→List vU}(s:St)(k:To C ρ (all (s.kids f g)::Γ) K):To C ρ (all (lsF f s.A s.exprs)::all (lsG f g s.At s.thn)::all (lsG f g s.Ae s.els)::Γ) K:=by
 refine cz (Γ':=all (lsG f g s.At s.thn)::all (lsG f g s.Ae s.els)::all (lsF f s.A s.exprs)::Γ) ?_ (Ku (cz (aQn _ _ _) (Ku ?_)))
 ·exact(List.Perm.trans (List.Perm.cons _ (aQn _ _ _)) (aQn _ _ _)).symm
 ·rw[Qc]at k;exact k
end
theorem Ib{f:Ex→List vU}(e:Ex):ros f e.A e.args∈e.kids f:=by rw[Le];exact aPc ..
theorem Hq{f:Ex→List vU}{e x:Ex}{j:Nat}(h:e.args[j]?=some x):∀c∈x.kids f,c∈e.kids f:=fun c hc=>by
 rw[Le,Kt];exact aPb _ (aQe.2 ⟨x,av h,hc⟩)
theorem Yo{f:Ex→List vU}{A:OA}{l:List Ex}{x:Ex}{j:Nat}(h:l[j]?=some x):∀c∈x.kids f,c∈lsF f A l:=fun c hc=>by
 show c∈_::Eh f l;rw[Kt];exact aPb _ (aQe.2 ⟨x,av h,hc⟩)
theorem Lf{f:Ex→List vU}{g:St→List vU}{A:OA}{l:List St}{x:St}{j:Nat}(h:l[j]?=some x):∀c∈x.kids f g,c∈lsG f g A l:=fun c hc=>by
 show c∈_::Ep f g l;rw[Md];exact aPb _ (aQe.2 ⟨x,av h,hc⟩)
theorem Lg{f:Ex→List vU}{g:St→List vU}(s:St):∀c∈lsF f s.A s.exprs,c∈s.kids f g:=fun c hc=>by rw[Qc];exact aRr _ hc
theorem Ig{f:Ex→List vU}{g:St→List vU}(s:St):∀c∈lsG f g s.At s.thn,c∈s.kids f g:=fun c hc=>by rw[Qc];exact aRh _ (aRr _ hc)
theorem Gz{f:Ex→List vU}{g:St→List vU}(s:St):∀c∈lsG f g s.Ae s.els,c∈s.kids f g:=fun c hc=>by rw[Qc];exact aRh _ (aRh _ hc)
theorem Mf(f:Ex→List vU)(A:OA)(l:List Ex):Lax (lsF f A l):=gy rfl (jV f l)
theorem Dj(f:Ex→List vU)(g:St→List vU)(A:OA)(l:List St):Lax (lsG f g A l):=gy rfl (dP f g l)
mutual
def PE.low:PE→Prop
 |⟨o,_,_,l⟩=>o≤23∧l.length≤2∧Kz l
def Kz:List PE→Prop
 |[]=>True
 |e::r=>PE.low e∧Kz r
end
mutual
def PS.low:PS→Prop
 |⟨k,_,_,es,t,e⟩=>k≤10∧es.length≤4∧Kz es∧(t.length≤12∧De t)∧e.length≤12∧De e
def De:List PS→Prop
 |[]=>True
 |e::r=>PS.low e∧De r
end
theorem Yp:∀{l:List PE},Kz l→∀x∈l,x.low
 |[],_,x,h=>by cases h
 | e::r,h,x,hx=>by
   rcases aPi.1 hx with rfl|hx
   ·exact h.1
   ·exact Yp h.2 x hx
theorem We:∀{l:List PE},(∀x∈l,x.low)→Kz l
 |[],_=>trivial
 |e::r,h=>⟨h e (aPc ..),We fun x hx=>h x (aPb _ hx)⟩
theorem iT:∀{l:List PS},De l→∀x∈l,x.low
 |[],_,x,h=>by cases h
 | e::r,h,x,hx=>by
   rcases aPi.1 hx with rfl|hx
   ·exact h.1
   ·exact iT h.2 x hx
theorem aY:∀{l:List PS},(∀x∈l,x.low)→De l
 |[],_=>trivial
 |e::r,h=>⟨h e (aPc ..),aY fun x hx=>h x (aPb _ hx)⟩
theorem Gy{e x:Ex}(h:e.pure.low)(hx:x∈e.args):x.pure.low:=by
 rw[Et]at h;refine Yp h.2.2 x.pure ?_;rw[Bj];exact aPx.2 ⟨x,hx,rfl⟩
theorem Ru{e:Ex}(h:e.pure.low):e.op≤23∧e.args.length≤2:=by
 rw[Et]at h;refine⟨h.1,?_⟩;have:=h.2.1;rwa[Bj,aPg]at this
theorem Mg{l:List Ex}(h:Kz (Cv l)){x:Ex}(hx:x∈l):x.pure.low:=Yp h x.pure (by rw[Bj];exact aPx.2 ⟨x,hx,rfl⟩)
theorem Jj{l:List St}(h:De (Am l)){x:St}(hx:x∈l):x.pure.low:=iT h x.pure (by rw[Ei];exact aPx.2 ⟨x,hx,rfl⟩)
theorem Ki{s:St}(h:s.pure.low):s.kind≤10∧(s.exprs.length≤4∧Kz (Cv s.exprs))∧(s.thn.length≤12∧De (Am s.thn))∧s.els.length≤12∧De (Am s.els):=by
 rw[Ju]at h;obtain⟨h1,h2,h3,⟨h4,h5⟩,h6,h7⟩:=h;rw[Bj,aPg]at h2;rw[Ei,aPg]at h4 h6;exact⟨h1,⟨h2,h3⟩,⟨h4,h5⟩,h6,h7⟩
section
variable{c:Ct}{np:Nat}
theorem Kv.low{d:Nat}{e:PE}(h:Kv c np d e):e.low:=by
 induction h with
 |num d n h=>exact⟨show 1≤23 by decide,aQb _,trivial⟩
 |var d k h=>exact⟨show 5≤23 by decide,aQb _,trivial⟩
 |par d k h=>exact⟨show 5≤23 by decide,aQb _,trivial⟩
 |now d=>exact⟨show 4≤23 by decide,aQb _,trivial⟩
 |get d e ht h ih=>exact⟨show 6≤23 by decide,show 1≤2 by decide,ih,trivial⟩
 |size d ht=>exact⟨show 8≤23 by decide,aQb _,trivial⟩
 |neg d e h ih=>exact⟨show 9≤23 by decide,show 1≤2 by decide,ih,trivial⟩
 |bin d op a b ho ha hb iha ihb=>exact⟨show op≤23 by omega,aPl 2,iha,ihb,trivial⟩
theorem Pn.low{d:Nat}{e:PE}(h:Pn c np d e):e.low:=by
 induction h with
 |tf d op h=>exact⟨show op≤23 by omega,aQb _,trivial⟩
 |b0 d=>exact⟨show 5≤23 by decide,aQb _,trivial⟩
 |flag d k h=>exact⟨show 5≤23 by decide,aQb _,trivial⟩
 |has d e ht h=>exact⟨show 7≤23 by decide,show 1≤2 by decide,h.low,trivial⟩
 |not d e h ih=>exact⟨show 10≤23 by decide,show 1≤2 by decide,ih,trivial⟩
 |two d op a b ho ha hb iha ihb=>exact⟨show op≤23 by omega,aPl 2,iha,ihb,trivial⟩
 |cmp d op a b ho ha hb=>exact⟨show op≤23 by omega,aPl 2,ha.low,hb.low,trivial⟩
theorem FN:∀l:List PS,l.length≤Bl l
 |[]=>aPl _
 | s::r=>by
   have:=FN r;show r.length+1≤PS.cnt s+Bl r;have h1:1≤PS.cnt s:=by cases s;show 1≤1+_+_;omega
   omega
theorem kD{s:PS}:∀{l:List PS},s∈l→PS.cnt s≤Bl l
 | a::r,h=>by
   show PS.cnt s≤PS.cnt a+Bl r;rcases aPi.1 h with rfl|h
   ·omega
   ·have:=kD h;omega
theorem StE.low(ok:c.Ok){d:Nat}{s:PS}(h:StE c np d s):PS.cnt s≤12→s.low:=by
 have nl:De []:=trivial;have len {l:List PS} (h:Bl l≤12):l.length≤12:=aRk (FN l) h;have all {l:List PS} (h:Bl l≤12) (ih:∀s∈l,PS.cnt s≤12→s.low):De l:=aY fun x hx=>ih x hx (aRk (kD hx) h);have par {to h n:Nat} {ar:List Nat} (ha:c.ars[to]?=some ar) (hh:ar[h]?=some n):n≤2:=(ok.each ar (av ha)).2.2 n (av hh)
 induction h with
 |setB d e h=>exact fun _=>⟨show 1≤10 by decide,show 1≤4 by decide,⟨h.low,trivial⟩,⟨aQb _,nl⟩,aQb _,nl⟩
 |setX d k e hk h=>exact fun _=>⟨show 1≤10 by decide,show 1≤4 by decide,⟨h.low,trivial⟩,⟨aQb _,nl⟩,aQb _,nl⟩
 |put d a b ht ha hb=>exact fun _=>⟨show 2≤10 by decide,show 2≤4 by decide,⟨ha.low,hb.low,trivial⟩,⟨aQb _,nl⟩,aQb _,nl⟩
 |del d a ht ha=>exact fun _=>⟨show 3≤10 by decide,show 1≤4 by decide,⟨ha.low,trivial⟩,⟨aQb _,nl⟩,aQb _,nl⟩
 | ife d e t l h ht hl iht ihl=>
   intro hc;have hc:1+Bl t+Bl l≤12:=hc;exact⟨show 4≤10 by decide,show 1≤4 by decide,⟨h.low,trivial⟩,⟨len om,all om iht⟩,len om,all om ihl⟩
 | whl d e t h ht iht=>
   intro hc;have hc:1+Bl t+Bl []≤12:=hc;exact⟨show 5≤10 by decide,show 1≤4 by decide,⟨h.low,trivial⟩,⟨len om,all om iht⟩,aQb _,nl⟩
 | send d to h ar l ha hh hl=>
   have:=par ha hh;exact fun _=>⟨show 6≤10 by decide,show l.length≤4 by omega,We fun x hx=>(hl x hx).low,⟨aQb _,nl⟩,aQb _,nl⟩
 | after d h ar e l ha hh he hl=>
   have:=par ha hh;exact fun _=>⟨show 7≤10 by decide,show l.length+1≤4 by omega,⟨he.low,We fun x hx=>(hl x hx).low⟩,⟨aQb _,nl⟩,aQb _,nl⟩
 | store d a b l ha hb hl ihl=>
   intro hc;have hc:1+Bl []+Bl l≤12:=hc;exact⟨show 8≤10 by decide,show 2≤4 by decide,⟨ha.low,hb.low,trivial⟩,⟨aQb _,nl⟩,len om,all om ihl⟩
 | fetch d k e l hk h hl ihl=>
   intro hc;have hc:1+Bl []+Bl l≤12:=hc;exact⟨show 9≤10 by decide,show 1≤4 by decide,⟨h.low,trivial⟩,⟨aQb _,nl⟩,len om,all om ihl⟩
 |stop d=>exact fun _=>⟨show 10≤10 by decide,aQb _,trivial,⟨aQb _,nl⟩,aQb _,nl⟩
end
theorem FO(e:Ex)(hlow:e.pure.low)(ih:∀x∈e.args,x.pure.low→Bg Tryz.prog 113 [.agg (Dh x).toArray] [all (x.kids Dh)] (fun v Γ'=>∃e':Ex,v= .agg (Be e').toArray∧Γ'=[all (e'.kids Be)]∧e'.pure=x.pure)):
    Bg Tryz.prog 113 [.agg (Dh e).toArray] [all (e.kids Dh)] (fun v Γ'=>∃e':Ex,v= .agg (Be e').toArray∧Γ'=[all (e'.kids Be)]∧e'.pure=e.pure):=by
 obtain⟨hop,hal⟩:=Ru hlow;refine Ba Tryz.func113 Tryz.ntmps113 fun w0=>?_;refine Js (dh (Jbo fun b1=>?_));refine ay fun b2=>?_;refine Jz 6 ?_;refine Jr (Km rfl rfl Tryz.underlying3 Tryz.underlying239 (IntWalk.u8_in _ om)) ?_;refine Jz 4 ?_;refine Jr (.bd [ub e.op, .string e.name,iv e.n,nz]) ?_;refine ay fun b3=>?_;refine Jz 5 ?_;refine bz 3 rfl (ros Dh e.A e.args) rfl (Ib e) (Jz 8 ?_);refine Dv (Be) 241 4 (aEs Be (Bz (fun s g mz ρ Γ=>∃(Ao:OA) (qo:Nat) (O:List Ex) (k:Nat),ρ=[s 2,s 3,s 15,s 16,(17,nv k)]∧Γ=[g 4,box b3 [ub e.op, .string e.name,iv e.n,vs Ao O qo] 241,g 2,g 6,rows Be 241 4 Ao qo O,all (Eh Be O)]∧mz=e.args.length-k∧(k≤e.args.length)∧(Cv O=Cv (e.args.take k))) ⟨⟨none,0,([]:List Ex),0,rfl,rfl,rfl,om,rfl⟩,sb⟩ ?_));rintro mz _ _ ⟨Ao,qo,O,k,rfl,rfl,rfl,hk,hO⟩;have hOl:O.length≤2:=by
  have h:=aPe List.length hO;rw[Bj,aPg,Bj,aPg,aPo]at h;omega
 refine Jz 6 ?_;refine ax rfl ?_ ?_<;>intro c18;obtain⟨x,hx⟩:=bq e.args k om;refine Jz 8 ?_;refine ay fun b5=>?_;refine Jz 3 ?_;refine Cg 4 rfl (x.kids Dh) (Ex.lax Dh x) (Hq hx) (Iq (tel []) mixed.h (Gd 1 3 rfl kr ?_ ?_));refine Jb [box b5 (Dh x) 238] [0,2,503,101,204,5505,6,507] (ag (au 1 rfl) (af _)) ?_;refine Jz 2 ?_;refine Du [0] (ih x (av hx) (Gy hlow (av hx))) ?_;rintro _ _ ⟨e2,rfl,rfl,he2⟩;refine⟨ag (au 1 rfl) (af _),?_⟩;refine Jz 1 ?_;refine Ew (Be e2) fun b25=>?_;refine Fw.ge rfl rfl rfl rfl (Cf Gw (i:=7) (j:=0) (el:=e2) rfl TS rfl rfl rfl rfl rfl om om) ?_;rintro _ _ ⟨A26,q26,rfl,rfl⟩;refine⟨ag (au 2 rfl) (af _),?_⟩;refine Jz 1 ?_;refine dm rfl rfl rfl (df (i:=4) rfl rfl rfl Sz rfl rfl (bt1 rfl)) (ag (au 2 rfl) (af _)) ?_;refine Jz 3 ?_;refine aJf (Ih (wF O e2 (Jz 5 ?_)));refine Bp ⟨⟨A26,q26,(O++[e2]),k+1,rfl,rfl,rfl,om,(by rw[Bj,aPn,←Bj,hO,Cy hx,Bj,Bj,aPn];show _++[e2.pure]=_++[x.pure];rw[he2])⟩,sb⟩;refine Jb [box b5 (Dh x) 238] [0,2,101,503,204,5505,6,507] (ag (au 1 rfl) (af _)) ?_;refine Jz 3 ?_;refine Du [0] (ih x (av hx) (Gy hlow (av hx))) ?_;rintro _ _ ⟨e2_2,rfl,rfl,he2_2⟩;refine⟨ag (au 1 rfl) (af _),?_⟩;refine Ew (Be e2_2) fun b25_2=>?_;refine Fw.ge rfl rfl rfl rfl (Cf Gw (i:=7) (j:=0) (el:=e2_2) rfl TS rfl rfl rfl rfl rfl om om) ?_;rintro _ _ ⟨A26_2,q26_2,rfl,rfl⟩;refine⟨ag (au 2 rfl) (af _),?_⟩;refine Jz 1 ?_;refine dm rfl rfl rfl (df (i:=4) rfl rfl rfl Sz rfl rfl (bt1 rfl)) (ag (au 2 rfl) (af _)) ?_;refine Jz 3 ?_;refine aJf (Ih (wF O e2_2 (Jz 5 ?_)));refine Bp ⟨⟨A26_2,q26_2,(O++[e2_2]),k+1,rfl,rfl,rfl,om,(by rw[Bj,aPn,←Bj,hO,Cy hx,Bj,Bj,aPn];show _++[e2_2.pure]=_++[x.pure];rw[he2_2])⟩,sb⟩;refine Jz 12 ?_;refine Ns (Ns (aEr O (Ee [0] Tryz.results113 ?_)));exact⟨(⟨e.op,e.name,e.n,Ao,qo,O⟩:Ex),rfl,rfl,by rw[Et e];show(⟨e.op,e.name,e.n,Cv O⟩:PE)=_;rw[hO,aQa om]⟩
theorem nV:∀e:Ex,e.pure.low→Bg Tryz.prog 113 [.agg (Dh e).toArray] [all (e.kids Dh)] (fun v Γ'=>∃e':Ex,v= .agg (Be e').toArray∧Γ'=[all (e'.kids Be)]∧e'.pure=e.pure)
 |e,h=>FO e h (fun x hx=>nV x)
termination_by e=>SizeOf.sizeOf e
decreasing_by
 cases e with
 | mk op s n A q l=>
   have:=aQr (show x∈l from hx);simp only[Ex.mk.sizeOf_spec];omega
def aZ(l:List St):vU→List Ad→Prop:=fun v Γ'=>∃(A':OA) (q':Nat) (l':List St),v=vs A' l' q'∧Γ'=[all (lsG Be Ca A' l')]∧Am l'=Am l
theorem FP(l:List St)(ih:∀x∈l,(∀(A:OA) (q:Nat),x.thn.length≤12→De (Am x.thn)→Bg Tryz.prog 77 [vs A x.thn q] [all (lsG Dh Mc A x.thn)] (aZ x.thn))∧(∀(A:OA) (q:Nat),x.els.length≤12→De (Am x.els)→Bg Tryz.prog 77 [vs A x.els q] [all (lsG Dh Mc A x.els)] (aZ x.els)))(A:OA)(q:Nat)(hl:l.length≤12)(hlow:De (Am l)):
    Bg Tryz.prog 77 [vs A l q] [all (lsG Dh Mc A l)] (aZ l):=by
 refine Ba Tryz.func77 Tryz.ntmps77 fun w0=>?_;refine Jz 12 ?_;refine bz 0 rfl (ros Mc A l) rfl (aPc ..) (Jz 7 ?_);refine Dv (Ca) 212 6 (aBq Be Ca (Bz (fun s g mz ρ Γ=>∃(Ao:OA) (qo:Nat) (O:List St) (k:Nat),ρ=[(3,vs Ao O qo),s 9,s 10,(11,nv k)]∧Γ=[g 2,g 3,rows Ca 212 6 Ao qo O,all (Ep Be Ca O)]∧mz=l.length-k∧(k≤l.length)∧(Am O=Am (l.take k))) ⟨⟨none,0,([]:List St),0,rfl,rfl,rfl,om,rfl⟩,sb⟩ ?_));rintro mz _ _ ⟨Ao,qo,O,k,rfl,rfl,rfl,hk,hO⟩;have hOl:O.length≤12:=by
  have h:=aPe List.length hO;rw[Ei,aPg,Ei,aPg,aPo]at h;omega
 refine Jz 6 ?_;refine ax rfl ?_ ?_<;>intro c12;obtain⟨x,hx⟩:=bq l k om;obtain⟨hxk,⟨hxe,hxl⟩,⟨hxt,hxtl⟩,hxn,hxnl⟩:=Ki (Jj hlow (av hx));refine Jz 8 ?_;refine ay fun b5=>?_;refine Jz 4 ?_;refine Cg 2 rfl (lsF Dh x.A x.exprs) (Mf _ _ _) (fun c hc=>Lf hx c (Lg x c hc)) (Cg 3 rfl (lsG Dh Mc x.Ae x.els) (Dj _ _ _ _) (fun c hc=>Lf hx c (Gz x c hc)) (Cg 4 rfl (lsG Dh Mc x.At x.thn) (Dj _ _ _ _) (fun c hc=>Lf hx c (Ig x c hc)) (Ra (T:=(Nat)×(OA)×(Nat)×(List St)×(OA)×(Nat)×(List St)) (fun t=>([(3,vs Ao O qo),(9,vs A l q),(10,nv l.length),(11,nv k),(5,pv b5),(6, .pointer (some ⟨(t.1),0,none⟩))],[ros Mc A l,all (lsG Dh Mc A l),rows Ca 212 6 Ao qo O,all (Ep Be Ca O),box b5 (Mc x) 218,box (t.1) [ub x.kind, .string x.name, .string x.hand,nz, .slice (t.2.1) (t.2.2.2.1).length (t.2.2.1), .slice (t.2.2.2.2.1) (t.2.2.2.2.2.2).length (t.2.2.2.2.2.1)] 212,all (lsG Be Ca (t.2.1) (t.2.2.2.1)),all (lsG Be Ca (t.2.2.2.2.1) (t.2.2.2.2.2.2)),all (lsF Dh x.A x.exprs)])) (fun t=>(Am (t.2.2.2.1)=Am x.thn)∧(Am (t.2.2.2.2.2.2)=Am x.els)) ?_ ?_)));refine Iq (RH (tel []) (LV [(9,[all (lsG Dh Mc x.At x.thn)],(aZ x.thn)),(12,[all (lsG Dh Mc x.Ae x.els)],(aZ x.els))])) mixed.h (Gd 14 9 rfl kr ?_ ?_);refine Gd 14 12 rfl kr ?_ ?_;refine Jb [box b5 (Mc x) 218] [0,1,2,3,4,5,6,7,8,10,11,509,512,13,214,15515] (ag (au 3 rfl) (af _)) ?_;refine Jz 2 ?_;refine di rfl (Km rfl rfl Tryz.underlying3 Tryz.underlying209 (IntWalk.u8_in _ om)) ?_;refine Jz 8 ?_;refine Ec [0] rfl rfl rfl rfl .fc rfl ((ih x (av hx)).1 x.At x.qt hxt hxtl) rfl ?_;rintro _ _ ⟨At2,qt2,t2,rfl,rfl,ht2⟩;refine⟨ag (au 3 rfl) (af _),?_⟩;refine Ec [1] rfl rfl rfl rfl .fc rfl ((ih x (av hx)).2 x.Ae x.qe hxn hxnl) rfl ?_;rintro _ _ ⟨Ae2,qe2,e2,rfl,rfl,he2⟩;refine⟨ag (au 3 rfl) (af _),?_⟩;refine di rfl (.bd [ub x.kind, .string x.name, .string x.hand,nz,vs At2 t2 qt2,vs Ae2 e2 qe2]) ?_;refine Fw.mk rfl rfl rfl rfl rfl (Mk.alloc rfl z212) ?_;rintro _ _ ⟨b6,rfl,rfl⟩;refine dm rfl rfl rfl (Co (i:=0) rfl rfl rfl aAr rfl rfl rfl (bta rfl)) (ag (au 4 rfl) (af _)) ?_;refine Jz 2 ?_;refine Mt (b6,At2,qt2,t2,Ae2,qe2,e2) ⟨ht2,he2⟩;refine Jb [box b5 (Mc x) 218] [0,1,2,3,4,5,6,7,8,10,11,509,214,15512,13,515] (ag (au 3 rfl) (af _)) ?_;refine Jz 2 ?_;refine di rfl (Km rfl rfl Tryz.underlying3 Tryz.underlying209 (IntWalk.u8_in _ om)) ?_;refine Jz 8 ?_;refine Ec [0] rfl rfl rfl rfl .fc rfl ((ih x (av hx)).1 x.At x.qt hxt hxtl) rfl ?_;rintro _ _ ⟨At2,qt2,t2,rfl,rfl,ht2⟩;refine⟨ag (au 3 rfl) (af _),?_⟩;refine Fw.mk rfl rfl rfl rfl rfl (Mk.alloc rfl z212) ?_;rintro _ _ ⟨b6,rfl,rfl⟩;refine Ec [2] rfl rfl rfl rfl .fc rfl ((ih x (av hx)).2 x.Ae x.qe hxn hxnl) rfl ?_;rintro _ _ ⟨Ae2,qe2,e2,rfl,rfl,he2⟩;refine⟨ag (au 4 rfl) (af _),?_⟩;refine di rfl (.bd [ub x.kind, .string x.name, .string x.hand,nz,vs At2 t2 qt2,vs Ae2 e2 qe2]) ?_;refine dm rfl rfl rfl (Co (i:=1) rfl rfl rfl aAr rfl rfl rfl (bta rfl)) (ag (au 4 rfl) (af _)) ?_;refine Jz 2 ?_;refine Mt (b6,At2,qt2,t2,Ae2,qe2,e2) ⟨ht2,he2⟩;refine Jb [box b5 (Mc x) 218] [0,1,2,3,4,5,6,7,8,10,11,214,15509,512,13,515] (ag (au 3 rfl) (af _)) ?_;refine Jz 2 ?_;refine di rfl (Km rfl rfl Tryz.underlying3 Tryz.underlying209 (IntWalk.u8_in _ om)) ?_;refine Jz 8 ?_;refine Fw.mk rfl rfl rfl rfl rfl (Mk.alloc rfl z212) ?_;rintro _ _ ⟨b6,rfl,rfl⟩;refine Ec [1] rfl rfl rfl rfl .fc rfl ((ih x (av hx)).1 x.At x.qt hxt hxtl) rfl ?_;rintro _ _ ⟨At2,qt2,t2,rfl,rfl,ht2⟩;refine⟨ag (au 4 rfl) (af _),?_⟩;refine Ec [2] rfl rfl rfl rfl .fc rfl ((ih x (av hx)).2 x.Ae x.qe hxn hxnl) rfl ?_;rintro _ _ ⟨Ae2,qe2,e2,rfl,rfl,he2⟩;refine⟨ag (au 4 rfl) (af _),?_⟩;refine di rfl (.bd [ub x.kind, .string x.name, .string x.hand,nz,vs At2 t2 qt2,vs Ae2 e2 qe2]) ?_;refine dm rfl rfl rfl (Co (i:=2) rfl rfl rfl aAr rfl rfl rfl (bta rfl)) (ag (au 4 rfl) (af _)) ?_;refine Jz 2 ?_;refine Mt (b6,At2,qt2,t2,Ae2,qe2,e2) ⟨ht2,he2⟩;rintro⟨b6,At2,qt2,t2,Ae2,qe2,e2⟩ ⟨ht2,he2⟩;replace ht2:Am t2=Am x.thn:=ht2;replace he2:Am e2=Am x.els:=he2;dsimp only;refine Js (Js (bz 8 rfl (ros Dh x.A x.exprs) rfl (aPc ..) (Jz 8 ?_)));refine Dv (Be) 241 4 (aEs Be (Bz (fun s g mz ρ Γ=>∃(Ax:OA) (qx:Nat) (X:List Ex) (j:Nat),ρ=[s 3,s 9,s 10,s 11,s 6,s 30,s 31,(32,nv j)]∧Γ=[g 3,g 4,g 5,g 6,g 9,g 10,g 11,g 2,box b6 [ub x.kind, .string x.name, .string x.hand,vs Ax X qx,vs At2 t2 qt2,vs Ae2 e2 qe2] 212,rows Be 241 4 Ax qx X,all (Eh Be X)]∧mz=x.exprs.length-j∧(j≤x.exprs.length)∧(Cv X=Cv (x.exprs.take j))) ⟨⟨none,0,([]:List Ex),0,rfl,rfl,rfl,om,rfl⟩,sb⟩ ?_));rintro mz _ _ ⟨Ax,qx,X,j,rfl,rfl,rfl,hj,hX⟩;have hXl:X.length≤4:=by
  have h:=aPe List.length hX;rw[Bj,aPg,Bj,aPg,aPo]at h;omega
 refine Jz 6 ?_;refine ax rfl ?_ ?_<;>intro c33;obtain⟨y,hy⟩:=bq x.exprs j om;refine Jz 8 ?_;refine ay fun b8=>?_;refine Jz 3 ?_;refine Cg 7 rfl (y.kids Dh) (Ex.lax Dh y) (Yo hy) (Iq (tel []) mixed.h (Gd 1 3 rfl kr ?_ ?_));refine Jb [box b8 (Dh y) 238] [0,2,503,101,204,5505,6,507] (ag (au 1 rfl) (af _)) ?_;refine Jz 2 ?_;refine Du [0] (nV y (Mg hxl (av hy))) ?_;rintro _ _ ⟨y2,rfl,rfl,hy2⟩;refine⟨ag (au 1 rfl) (af _),?_⟩;refine Jz 1 ?_;refine Ew (Be y2) fun b40=>?_;refine Fw.ge rfl rfl rfl rfl (Cf Gw (i:=12) (j:=0) (el:=y2) rfl TS rfl rfl rfl rfl rfl om om) ?_;rintro _ _ ⟨A41,q41,rfl,rfl⟩;refine⟨ag (au 2 rfl) (af _),?_⟩;refine Jz 1 ?_;refine dm rfl rfl rfl (df (i:=11) rfl rfl rfl Sz rfl rfl (bt1 rfl)) (ag (au 2 rfl) (af _)) ?_;refine Jz 3 ?_;refine RO (Ih (wF X y2 (Jz 5 ?_)));refine Bp ⟨⟨A41,q41,(X++[y2]),j+1,rfl,rfl,rfl,om,(by rw[Bj,aPn,←Bj,hX,Cy hy,Bj,Bj,aPn];show _++[y2.pure]=_++[y.pure];rw[hy2])⟩,sb⟩;refine Jb [box b8 (Dh y) 238] [0,2,101,503,204,5505,6,507] (ag (au 1 rfl) (af _)) ?_;refine Jz 3 ?_;refine Du [0] (nV y (Mg hxl (av hy))) ?_;rintro _ _ ⟨y2,rfl,rfl,hy2⟩;refine⟨ag (au 1 rfl) (af _),?_⟩;refine Ew (Be y2) fun b40=>?_;refine Fw.ge rfl rfl rfl rfl (Cf Gw (i:=12) (j:=0) (el:=y2) rfl TS rfl rfl rfl rfl rfl om om) ?_;rintro _ _ ⟨A41,q41,rfl,rfl⟩;refine⟨ag (au 2 rfl) (af _),?_⟩;refine Jz 1 ?_;refine dm rfl rfl rfl (df (i:=11) rfl rfl rfl Sz rfl rfl (bt1 rfl)) (ag (au 2 rfl) (af _)) ?_;refine Jz 3 ?_;refine RO (Ih (wF X y2 (Jz 5 ?_)));refine Bp ⟨⟨A41,q41,(X++[y2]),j+1,rfl,rfl,rfl,om,(by rw[Bj,aPn,←Bj,hX,Cy hy,Bj,Bj,aPn];show _++[y2.pure]=_++[y.pure];rw[hy2])⟩,sb⟩;refine Jz 8 ?_;refine Er [ub x.kind, .string x.name, .string x.hand,vs Ax X qx,vs At2 t2 qt2,vs Ae2 e2 qe2] fun b46=>?_;refine Jge rfl rfl rfl (Cf Ia (i:=3) (j:=0) (el:=(⟨x.kind,x.name,x.hand,Ax,qx,X,At2,qt2,t2,Ae2,qe2,e2⟩:St)) rfl aKn rfl rfl rfl rfl rfl om om) ?_;rintro _ _ ⟨A47,q47,rfl,rfl⟩;refine Jz 4 ?_;refine Rf (Rf (aEr X (Zx (Zx (Ih (aLw (⟨x.kind,x.name,x.hand,Ax,qx,X,At2,qt2,t2,Ae2,qe2,e2⟩:St) (Ns (Lh (VD O (⟨x.kind,x.name,x.hand,Ax,qx,X,At2,qt2,t2,Ae2,qe2,e2⟩:St) (Jz 5 ?_))))))))));refine Bp ⟨⟨A47,q47,(O++[(⟨x.kind,x.name,x.hand,Ax,qx,X,At2,qt2,t2,Ae2,qe2,e2⟩:St)]),k+1,rfl,rfl,rfl,om,(by rw[Ei,aPn,←Ei,hO,Cy hx,Ei,Ei,aPn];show _++[(⟨x.kind,x.name,x.hand,Cv X,Am t2,Am e2⟩:PS)]=_++[x.pure];rw[hX,aQa (l:=x.exprs) om,ht2,he2,←Ju x])⟩,sb⟩;refine Jz 12 ?_;refine Fv (Fv (aBp O (Ck (Cr (bv Tryz.results77 ?_)))));exact⟨Ao,qo,O,rfl,rfl,by rw[hO,aQa om]⟩
theorem dX:∀l:List St,∀(A:OA) (q:Nat),l.length≤12→De (Am l)→Bg Tryz.prog 77 [vs A l q] [all (lsG Dh Mc A l)] (aZ l)
 |l,A,q,h1,h2=>FP l (fun x hx=>⟨dX x.thn,dX x.els⟩) A q h1 h2
termination_by l=>SizeOf.sizeOf l
decreasing_by
 all_goals
  have h:=aQr hx;have:SizeOf.sizeOf x.thn<SizeOf.sizeOf x∧SizeOf.sizeOf x.els<SizeOf.sizeOf x:=by cases x;simp only[St.mk.sizeOf_spec];omega
  omega
end Go.Proofs.YtihgdnjkofpgiaaGreatDoor
namespace Go.Sep
open Go.RowKit Go.Flow Go.Mem
theorem dY{P:pG}{o:Oper}{ρ:Bo}{Γ:List Ad}{x y:Operand}{α:Type}{enc:α→List vU}{size:Nat}(E:Enc enc size){t e:tI}{bytes:Nat}{zs:List vU}{B:OA}{cb:Nat}{m:List α}(ho:o.op= .call {callee:= .builtin .append,args:=#[x,y],argTypes:=#[t,t]})(ht:Cj P t e size bytes zs)
    (hx:ev ρ x=some (nz)) (hy:ev ρ y=some (vs B m cb)) (hs:∀w,oks Γ w→Src w B (m.flatMap enc)) (h63:m.length≤9223372036854775807) (hby:m.length*bytes≤140737488355328):
    Mk P o ρ Γ (fun v N=>∃A' cap',v=vs A' m cap'∧N=[rows enc e size A' cap' m]):=by
 rcases Nat.eq_zero_or_pos m.length with h0|h0
 · have hm:m=[]:=aRu h0
   subst hm;intro a w ha hG;have hrd:=Vh (P:=P) (Γ:=Γ) ho ht hx hy h0 (aPl 0) a w ha hG;refine⟨.slice none 0 0,[rows enc e size none 0 ([]:List α)],w,hrd,⟨none,0,rfl,rfl⟩,⟨⟨fun c hc=>?_,by simp[owns,rows,row,Ik],by simp[reads,rows,row]⟩,Gi.refl _ _,fun g hg=>by simp[owns,rows,row,Ik]at hg,by simp[reads,rows,row]⟩⟩;rw[aPj.1 hc];exact World.ownsRow_nil w 0 e size
 ·exact bR E ho ht hx hy hs h0 h63 hby
end Go.Sep
namespace Go.Proofs.YtihgdnjkofpgiaaGreatDoor
open Go.RowKit Go.Flow Go.Mem Go.Sep Go.In
section
variable{C:Cx}{ρ:Bo}{Γ:List Ad}{K:Act→wD→Prop}
theorem Sl{α:Type}{f:α→List Ad}(O:List α)(x:α)(k:To C ρ (all ((O++[x]).flatMap f)::Γ) K):To C ρ (all (f x)::all (O.flatMap f)::Γ) K:=by
 refine cz (aQn _ _ _) (Ku ?_);rw[aQs,show[x].flatMap f=f x from aPw _]at k;exact k
theorem aHc(k:Yj)(h:Hd){ty:tI}(kk:To C ρ (all (h.kids k)::Γ) K):To C ρ (rows Dc ty 1 h.Ap h.qp h.ps::all (lsG k.f k.g h.Ab h.body)::Γ) K:=Dt (Cz kk)
theorem aHd(k:Yj)(v:Vs){ty:tI}(kk:To C ρ (all (v.kids k)::Γ) K):To C ρ (rows Ii ty 3 v.A v.q v.l::all (v.l.flatMap (Hd.kids k))::Γ) K:=Dt (Cz kk)
theorem aHe(k:Yj)(c:Cm){t1 t2:tI}{z:Nat}(kk:To C ρ (all (c.kids k)::Γ) K):To C ρ (rows k.v t1 z c.Av c.qv c.vars::rows Fq t2 1 c.An c.qn c.vers::all (c.vers.flatMap (Vs.kids k))::Γ) K:=by
 refine Dt (cz (Γ':=rows Fq t2 1 c.An c.qn c.vers::all (c.vers.flatMap (Vs.kids k))::ros k.v c.Av c.vars::Γ) ?_ (Dt (Cz ?_)))
 ·exact(aPv (l₁:=[_,_])).symm
 exact cz (aQn _ _ _) (Cz kk)
theorem aHf(k:Yj)(f:Fl){t1 t2 t3:tI}(kk:To C ρ (all (f.kids k)::Γ) K):To C ρ (rows Gh t1 2 f.Af f.qf f.flags::rows Jv t2 3 f.Al f.ql f.links::rows Gm t3 3 f.Ac f.qc f.comps::all (f.comps.flatMap (Cm.kids k))::Γ) K:=by
 refine Dt (cz (Γ':=rows Jv t2 3 f.Al f.ql f.links::rows Gm t3 3 f.Ac f.qc f.comps::all (f.comps.flatMap (Cm.kids k))::ros Gh f.Af f.flags::Γ) ?_ (Dt ?_))
 ·exact(aPv (l₁:=[_,_,_])).symm
 refine cz (Γ':=rows Gm t3 3 f.Ac f.qc f.comps::all (f.comps.flatMap (Cm.kids k))::ros Jv f.Al f.links::ros Gh f.Af f.flags::Γ) ?_ (Dt (Cz (cz (aQn _ _ _) (Cz ?_))))
 ·exact(aPv (l₁:=[_,_])).symm
 exact cz (aQn _ _ _) (Cz kk)
end
theorem zO{C:Cx}{ρ:Bo}{Γ:List Ad}{K:Act→wD→Prop}{α:Type}{enc:α→List vU}{e:tI}{size cap:Nat}{A:OA}{l:List α}(i:Nat)(hi:Γ[i]?=some (rows enc e size A cap l))(k:l.length≤cap→To C ρ Γ K):To C ρ Γ K:=kU (fun w hw=>by
 obtain⟨A',c',h,_,h2,_⟩:=Il (hw.each _ (av hi));injection h with _ _ h;rw[h];exact h2) k
def Vs.Cap(v:Vs):Prop:=v.l.length≤v.q∧∀h∈v.l,h.ps.length≤h.qp
def Cm.Cap(c:Cm):Prop:=(c.vars.length≤c.qv∧c.vers.length≤c.qn)∧∀v∈c.vers,v.Cap
def Fl.Cap(F:Fl):Prop:=(F.flags.length≤F.qf∧F.links.length≤F.ql∧F.comps.length≤F.qc)∧∀c∈F.comps,c.Cap
theorem Tq{α:Type}{p:α→Prop}{l:List α}{x:α}(h:∀y∈l,p y)(hx:p x):∀y∈l++[x],p y:=fun y hy=>(aQp.1 hy).elim (h y) fun hy=>by rw[aPj.1 hy];exact hx
section
variable{k:Yj}{F:Fl}{c:Cm}{v:Vs}{h:Hd}{i:Nat}
theorem Nh:ros Gh F.Af F.flags∈F.kids k:=aPc ..
theorem Oq:ros Jv F.Al F.links∈F.kids k:=aPb _ (aPc ..)
theorem En:ros Gm F.Ac F.comps∈F.kids k:=aPb _ (aPb _ (aPc ..))
theorem Dg(hc:F.comps[i]?=some c):∀z∈c.kids k,z∈F.kids k:=fun z hz=>aPb _ (aPb _ (aPb _ (aQe.2 ⟨c,av hc,hz⟩)))
theorem Kj:ros k.v c.Av c.vars∈c.kids k:=aPc ..
theorem Kk:ros Fq c.An c.vers∈c.kids k:=aPb _ (aPc ..)
theorem Ir(hv:c.vers[i]?=some v):∀z∈v.kids k,z∈c.kids k:=fun z hz=>aPb _ (aPb _ (aQe.2 ⟨v,av hv,hz⟩))
theorem Ue:ros Ii v.A v.l∈v.kids k:=aPc ..
theorem Tt(hh:v.l[i]?=some h):∀z∈h.kids k,z∈v.kids k:=fun z hz=>aPb _ (aQe.2 ⟨h,av hh,hz⟩)
theorem Zn:ros Dc h.Ap h.ps∈h.kids k:=aPc ..
theorem Qf:∀z∈lsG k.f k.g h.Ab h.body,z∈h.kids k:=fun z hz=>aPb _ hz
end
structure aBr(F:Fl):Prop where
 flags:F.flags.length≤2
 links:F.links.length≤9
 comps:F.comps.length≤3
 vars:∀c∈F.comps,c.vars.length≤5∧∀v∈c.vars,v.ty≤3
 vers:∀c∈F.comps,c.vers.length≤2∧∀v∈c.vers,v.l.length≤3∧∀h∈v.l,h.ps.length≤2∧h.body.length≤12∧De (Am h.body)
theorem FQ(F:Fl)(hF:aBr F):
    Bg Tryz.prog 43 [.agg (cF F []).toArray] [all (F.kids eR)] (fun v Γ'=>∃F':Fl,v= .agg F'.cells.toArray∧Γ'=[all (F'.kids eX)]∧F'.Cap∧F'.pure=F.pure):=by
 have hfl:=hF.flags;have hlk:=hF.links;have hcm:=hF.comps;refine Ba Tryz.func43 Tryz.ntmps43 fun w0=>?_;refine Js (dh (Jbo fun b1=>?_));refine ay fun b2=>?_;refine Jz 6 ?_;refine Jr (.bd [.string F.name,nz,nz,nz]) ?_;refine ay fun b3=>?_;refine Jz 5 ?_;refine bz 3 rfl (ros Gh F.Af F.flags) rfl (Nh) (Jz 8 ?_);refine Dv (Gh) 169 2 (Bz (fun s g mz ρ Γ=>∃(Af:OA) (qf:Nat) (Fs:List Fg) (kf:Nat),ρ=[s 1,s 2,s 3,(22,vs F.Af F.flags F.qf),s 23,(24,nv kf)]∧Γ=[g 4,g 3,box b3 [.string F.name,vs Af Fs qf,nz,nz] 74,ros Gh F.Af F.flags,g 5,rows Gh 169 2 Af qf Fs]∧mz=F.flags.length-kf∧(kf≤F.flags.length)∧(Fs=F.flags.take kf)) ⟨⟨none,0,([]:List Fg),0,rfl,rfl,rfl,om,rfl⟩,sb⟩ ?_);rintro mz _ _ ⟨Af,qf,Fs,kf,rfl,rfl,rfl,hkf,hFs⟩;have hFl:Fs.length≤2:=by rw[hFs,aPo];omega
 refine Jz 6 ?_;refine ax rfl ?_ ?_<;>intro c25;obtain⟨y,hy⟩:=bq F.flags kf om;refine Jz 8 ?_;refine ay fun b5=>?_;refine Jz 10 ?_;refine Jr (.bd [.string y.name, .bool y.init]) ?_;refine Er [.string y.name, .bool y.init] fun b35=>?_;refine Jge rfl rfl rfl (Cf nJ (i:=7) (j:=0) (el:=y) rfl s70 rfl rfl rfl rfl rfl om om) ?_;rintro _ _ ⟨A36,q36,rfl,rfl⟩;refine Jz 10 ?_;refine Bp ⟨⟨A36,q36,(Fs++[y]),kf+1,rfl,rfl,rfl,om,(by rw[Cy hy,←hFs])⟩,sb⟩;refine Jz 7 ?_;refine bz 4 rfl (ros Jv F.Al F.links) rfl (Oq) (Jz 8 ?_);refine Dv (Jv) 162 3 (Bz (fun s g mz ρ Γ=>∃(Al:OA) (ql:Nat) (Ls:List Lk) (kl:Nat),ρ=[s 1,s 2,s 3,(40,vs F.Al F.links F.ql),s 41,(42,nv kl)]∧Γ=[g 2,g 3,box b3 [.string F.name,vs Af Fs qf,vs Al Ls ql,nz] 74,g 7,ros Jv F.Al F.links,g 6,rows Jv 162 3 Al ql Ls]∧mz=F.links.length-kl∧(kl≤F.links.length)∧(Ls=F.links.take kl)) ⟨⟨none,0,([]:List Lk),0,rfl,rfl,rfl,om,rfl⟩,sb⟩ ?_);rintro mz _ _ ⟨Al,ql,Ls,kl,rfl,rfl,rfl,hkl,hLs⟩;have hLl:Ls.length≤9:=by rw[hLs,aPo];omega
 refine Jz 6 ?_;refine ax rfl ?_ ?_<;>intro c43;obtain⟨y,hy⟩:=bq F.links kl om;refine Jz 8 ?_;refine ay fun b7=>?_;refine Jz 12 ?_;refine Jr (.bd [.string y.src, .string y.dst,iv y.lat]) ?_;refine Er [.string y.src, .string y.dst,iv y.lat] fun b55=>?_;refine Jge rfl rfl rfl (Cf nK (i:=8) (j:=0) (el:=y) rfl s71 rfl rfl rfl rfl rfl om om) ?_;rintro _ _ ⟨A56,q56,rfl,rfl⟩;refine Jz 10 ?_;refine Bp ⟨⟨A56,q56,(Ls++[y]),kl+1,rfl,rfl,rfl,om,(by rw[Cy hy,←hLs])⟩,sb⟩;refine Jz 7 ?_;refine bz 5 rfl (ros Gm F.Ac F.comps) rfl (En) (Jz 8 ?_);refine Dv (Gm) 107 3 (Hz (Bz (fun s g mz ρ Γ=>∃(Ac:OA) (qc:Nat) (O:List Cm) (k:Nat),ρ=[s 2,s 3,(60,vs F.Ac F.comps F.qc),s 61,(62,nv k)]∧Γ=[g 4,box b3 [.string F.name,vs Af Fs qf,vs Al Ls ql,vs Ac O qc] 74,g 6,g 9,ros Gm F.Ac F.comps,g 8,rows Gm 107 3 Ac qc O,all (List.flatMap (Cm.kids eX) O)]∧mz=F.comps.length-k∧(k≤F.comps.length)∧(O.map Cm.pure=(F.comps.take k).map Cm.pure)∧(∀x∈O,x.Cap)) ⟨⟨none,0,([]:List Cm),0,rfl,rfl,rfl,om,rfl,(fun _ h=>nomatch h)⟩,sb⟩ ?_));rintro mz _ _ ⟨Ac,qc,O,k,rfl,rfl,rfl,hk,hO,hOc⟩;have hOl:O.length≤3:=by have h:=aPe List.length hO;rw[aPg,aPg,aPo]at h;omega
 refine Jz 6 ?_;refine ax rfl ?_ ?_<;>intro c63;obtain⟨c,hc⟩:=bq F.comps k om;obtain⟨hcv,hcy⟩:=hF.vars c (av hc);obtain⟨hcw,hcz⟩:=hF.vers c (av hc);refine Jz 8 ?_;refine ay fun b9=>?_;refine Jz 7 ?_;refine Jr (.bd [.string c.name,nz,nz]) ?_;refine ay fun b10=>?_;refine Jz 5 ?_;refine Cg 7 rfl (c.kids eR) (Cm.lax eR c) (Dg hc) (bz 0 rfl (ros Pw c.Av c.vars) rfl (Kj) (Jz 8 ?_));refine Dv (Hg) 92 3 (Bz (fun s g mz ρ Γ=>∃(Av:OA) (qv:Nat) (V:List Vr) (j:Nat),ρ=[s 2,s 3,s 60,s 61,s 62,s 9,s 10,(70,vs c.Av c.vars c.qv),s 71,(72,nv j)]∧Γ=[g 5,g 6,g 7,g 8,g 9,g 10,g 11,g 12,g 4,box b10 [.string c.name,vs Av V qv,nz] 107,ros Pw c.Av c.vars,g 2,rows Hg 92 3 Av qv V]∧mz=c.vars.length-j∧(j≤c.vars.length)∧(V=c.vars.take j)) ⟨⟨none,0,([]:List Vr),0,rfl,rfl,rfl,om,rfl⟩,sb⟩ ?_);rintro mz _ _ ⟨Av,qv,V,j,rfl,rfl,rfl,hj,hV⟩;have hVl:V.length≤5:=by rw[hV,aPo];omega
 refine Jz 6 ?_;refine ax rfl ?_ ?_<;>intro c73;obtain⟨y,hy⟩:=bq c.vars j om;have hy3:=hcy y (av hy);refine Jz 8 ?_;refine ay fun b12=>?_;refine Jz 10 ?_;refine Jr (Km rfl rfl Tryz.underlying3 Tryz.underlying90 (IntWalk.u8_in _ om)) ?_;refine Jz 2 ?_;refine Jr (.bd [.string y.name,ub y.ty,iv y.init]) ?_;refine Er [.string y.name,ub y.ty,iv y.init] fun b86=>?_;refine Jge rfl rfl rfl (Cf zF (i:=14) (j:=0) (el:=y) rfl s88 rfl rfl rfl rfl rfl om om) ?_;rintro _ _ ⟨A87,q87,rfl,rfl⟩;refine Jz 10 ?_;refine Bp ⟨⟨A87,q87,(V++[y]),j+1,rfl,rfl,rfl,om,(by rw[Cy hy,←hV])⟩,sb⟩;refine Jz 7 ?_;refine bz 11 rfl (ros Fq c.An c.vers) rfl (Kk) (Jz 8 ?_);refine Dv (Fq) 117 1 (Hz (Bz (fun s g mz ρ Γ=>∃(Aw:OA) (qw:Nat) (W:List Vs) (jw:Nat),ρ=[s 2,s 3,s 60,s 61,s 62,s 10,s 91,s 92,(93,nv jw)]∧Γ=[g 3,g 4,g 5,g 6,g 7,g 8,g 9,g 10,box b10 [.string c.name,vs Av V qv,vs Aw W qw] 107,g 15,g 2,g 14,rows Fq 117 1 Aw qw W,all (List.flatMap (Vs.kids eX) W)]∧mz=c.vers.length-jw∧(jw≤c.vers.length)∧(W.map Vs.pure=(c.vers.take jw).map Vs.pure)∧(∀x∈W,x.Cap)) ⟨⟨none,0,([]:List Vs),0,rfl,rfl,rfl,om,rfl,(fun _ h=>nomatch h)⟩,sb⟩ ?_));rintro mz _ _ ⟨Aw,qw,W,jw,rfl,rfl,rfl,hjw,hW,hWc⟩;have hWl:W.length≤2:=by have h:=aPe List.length hW;rw[aPg,aPg,aPo]at h;omega
 refine Jz 6 ?_;refine ax rfl ?_ ?_<;>intro c94;obtain⟨v,hv⟩:=bq c.vers jw om;obtain⟨hvl,hvh⟩:=hcz v (av hv);refine Jz 13 ?_;refine ay fun b15=>?_;refine Jz 4 ?_;refine Cg 12 rfl (v.kids eR) (Vs.lax eR v) (Ir hv) (bz 0 rfl (ros Ii v.A v.l) rfl (Ue) (Jz 7 ?_));refine Dv (Ii) 120 3 (Hz (Bz (fun s g mz ρ Γ=>∃(Ah:OA) (qh:Nat) (H:List Hd) (i:Nat),ρ=[s 2,s 3,s 60,s 61,s 62,s 10,s 91,s 92,s 93,s 15,s 97,s 98,(99,nv i)]∧Γ=[g 5,g 6,g 7,g 8,g 9,g 10,g 11,g 12,g 13,g 14,g 15,g 16,g 17,g 18,box b15 [vs Ah H qh] 117,g 2,g 3,rows Ii 120 3 Ah qh H,all (List.flatMap (Hd.kids eX) H)]∧mz=v.l.length-i∧(i≤v.l.length)∧(H.map Hd.pure=(v.l.take i).map Hd.pure)∧(∀x∈H,x.ps.length≤x.qp)) ⟨⟨none,0,([]:List Hd),0,rfl,rfl,rfl,om,rfl,(fun _ h=>nomatch h)⟩,sb⟩ ?_));rintro mz _ _ ⟨Ah,qh,H,i,rfl,rfl,rfl,hi,hH,hHc⟩;have hHl:H.length≤3:=by have h0:=aPe List.length hH;rw[aPg,aPg,aPo]at h0;omega
 refine Jz 6 ?_;refine ax rfl ?_ ?_<;>intro aNo;obtain⟨h,hh⟩:=bq v.l i om;obtain⟨hhp,hhb,hhl⟩:=hvh h (av hh);refine Jz 3 ?_;refine Ra (T:=(OA)×(Nat)×(OA)×(Nat)×(List St)×(OA)×(Nat)) (fun t=>([(2,pv b2),(3,pv b3),(60,vs F.Ac F.comps F.qc),(61,nv F.comps.length),(62,nv k),(10,pv b10),(91,vs c.An c.vers c.qn),(92,nv c.vers.length),(93,nv jw),(15,pv b15),(97,vs v.A v.l v.q),(98,nv v.l.length),(99,nv i)],[box b2 [.string bE,nz,nz,nz] 74,box b3 [.string F.name,vs Af Fs qf,vs Al Ls ql,vs Ac O qc] 74,rows Gh 169 2 Af qf Fs,rows Jv 162 3 Al ql Ls,ros Gm F.Ac F.comps,all (F.kids eR),rows Gm 107 3 Ac qc O,all (List.flatMap (Cm.kids eX) O),box b10 [.string c.name,vs Av V qv,vs Aw W qw] 107,rows Hg 92 3 Av qv V,ros Fq c.An c.vers,all (c.kids eR),rows Fq 117 1 Aw qw W,all (List.flatMap (Vs.kids eX) W),box b15 [vs (t.2.2.2.2.2.1) (H++[(⟨h.name,(t.1),(t.2.1),h.ps,(t.2.2.1),(t.2.2.2.1),(t.2.2.2.2.1)⟩:Hd)]) (t.2.2.2.2.2.2)] 117,ros Ii v.A v.l,all (v.kids eR),rows Dc 9 1 (t.1) (t.2.1) h.ps,all (lsG Be Ca (t.2.2.1) (t.2.2.2.2.1)),rows Ii 120 3 (t.2.2.2.2.2.1) (t.2.2.2.2.2.2) (H++[(⟨h.name,(t.1),(t.2.1),h.ps,(t.2.2.1),(t.2.2.2.1),(t.2.2.2.2.1)⟩:Hd)]),all (List.flatMap (Hd.kids eX) H)])) (fun t=>(Am (t.2.2.2.2.1)=Am h.body)) ?_ ?_;refine Jz 5 ?_;refine ay fun b17=>?_;refine Jz 3 ?_;refine Cg 17 rfl (h.kids eR) (Hd.lax eR h) (Tt hh) (Cg 0 rfl (lsG Dh Mc h.Ab h.body) (Dj _ _ _ _) (Qf (k:=eR)) (bz 1 rfl (ros Dc h.Ap h.ps) rfl (Zn) (Iq (RH (tel []) (LV [(9,[all (lsG Dh Mc h.Ab h.body)],(aZ h.body))])) mixed.h (Gd 1 9 rfl kr ?_ ?_))));refine Jb [box b17 [.string h.name,vs h.Ap h.ps h.qp,vs h.Ab h.body h.qb] 114] [0,2,3,4,5,7,8,206,7509,10,101,211,12512,13,514] (ag (au 3 rfl) (af _)) ?_;refine Jz 7 ?_;refine Fw.mk rfl rfl rfl rfl rfl (dY Di (m:=h.ps) rfl s54 rfl rfl (au (c:=ros Dc h.Ap h.ps) 0 rfl) om om) ?_;rintro _ _ ⟨Ap2,qp2,rfl,rfl⟩;refine Ec [2] rfl rfl rfl rfl .fc rfl (dX h.body h.Ab h.qb hhb hhl) rfl ?_;rintro _ _ ⟨Ab2,qb2,hb2,rfl,rfl,hbp⟩;refine⟨ag (au 4 rfl) (af _),?_⟩;refine di rfl (.bd [.string h.name,vs Ap2 h.ps qp2,vs Ab2 hb2 qb2]) ?_;refine Jz 1 ?_;refine Ew [.string h.name,vs Ap2 h.ps qp2,vs Ab2 hb2 qb2] fun b114=>?_;refine Fw.ge rfl rfl rfl rfl (Cf Zi (i:=23) (j:=0) (el:=(⟨h.name,Ap2,qp2,h.ps,Ab2,qb2,hb2⟩:Hd)) rfl aAq rfl rfl rfl rfl rfl om om) ?_;rintro _ _ ⟨A115,q115,rfl,rfl⟩;refine⟨ag (au 5 rfl) (af _),?_⟩;refine Jz 1 ?_;refine dm rfl rfl rfl (df (i:=20) rfl rfl rfl aGq rfl rfl (bta rfl)) (ag (au 5 rfl) (af _)) ?_;refine Jz 3 ?_;refine Mt (Ap2,qp2,Ab2,qb2,hb2,A115,q115) hbp;refine Jb [box b17 [.string h.name,vs h.Ap h.ps h.qp,vs h.Ab h.body h.qb] 114] [0,2,3,4,5,7,8,101,206,7509,10,211,12512,13,514] (ag (au 3 rfl) (af _)) ?_;refine Jz 8 ?_;refine Fw.mk rfl rfl rfl rfl rfl (dY Di (m:=h.ps) rfl s54 rfl rfl (au (c:=ros Dc h.Ap h.ps) 0 rfl) om om) ?_;rintro _ _ ⟨Ap2,qp2,rfl,rfl⟩;refine Ec [2] rfl rfl rfl rfl .fc rfl (dX h.body h.Ab h.qb hhb hhl) rfl ?_;rintro _ _ ⟨Ab2,qb2,hb2,rfl,rfl,hbp⟩;refine⟨ag (au 4 rfl) (af _),?_⟩;refine di rfl (.bd [.string h.name,vs Ap2 h.ps qp2,vs Ab2 hb2 qb2]) ?_;refine Ew [.string h.name,vs Ap2 h.ps qp2,vs Ab2 hb2 qb2] fun b114=>?_;refine Fw.ge rfl rfl rfl rfl (Cf Zi (i:=23) (j:=0) (el:=(⟨h.name,Ap2,qp2,h.ps,Ab2,qb2,hb2⟩:Hd)) rfl aAq rfl rfl rfl rfl rfl om om) ?_;rintro _ _ ⟨A115,q115,rfl,rfl⟩;refine⟨ag (au 5 rfl) (af _),?_⟩;refine Jz 1 ?_;refine dm rfl rfl rfl (df (i:=20) rfl rfl rfl aGq rfl rfl (bta rfl)) (ag (au 5 rfl) (af _)) ?_;refine Jz 3 ?_;refine Mt (Ap2,qp2,Ab2,qb2,hb2,A115,q115) hbp;rintro⟨Ap2,qp2,Ab2,qb2,hb2,Ah2,qh2⟩ hbp;replace hbp:Am hb2=Am h.body:=hbp;dsimp only;refine zO 17 rfl (fun hzc=>?_);refine IW (IW (aHc eX (⟨h.name,Ap2,qp2,h.ps,Ab2,qb2,hb2⟩:Hd) (xJ (Lh (Sl H (⟨h.name,Ap2,qp2,h.ps,Ab2,qb2,hb2⟩:Hd) (Jz 5 ?_))))));refine Bp ⟨⟨Ah2,qh2,(H++[(⟨h.name,Ap2,qp2,h.ps,Ab2,qb2,hb2⟩:Hd)]),i+1,rfl,rfl,rfl,om,(by rw[aPn,hH,Cy hh,aPn];show _++[(⟨h.name,h.ps,Am hb2⟩:PH)]=_++[Hd.pure h];rw[hbp];rfl),(Tq hHc hzc)⟩,sb⟩;refine Jz 9 ?_;refine Er [vs Ah H qh] fun b121=>?_;refine Jge rfl rfl rfl (Cf Sk (i:=13) (j:=0) (el:=(⟨Ah,qh,H⟩:Vs)) rfl aAp rfl rfl rfl rfl rfl om om) ?_;rintro _ _ ⟨A122,q122,rfl,rfl⟩;refine Jz 5 ?_;refine zO 18 rfl (fun hhc=>?_);refine xJ (xJ (aHd eX (⟨Ah,qh,H⟩:Vs) (qO (Lh (Sl W (⟨Ah,qh,H⟩:Vs) (Jz 5 ?_))))));refine Bp ⟨⟨A122,q122,(W++[(⟨Ah,qh,H⟩:Vs)]),jw+1,rfl,rfl,rfl,om,(by rw[aPn,hW,Cy hv,aPn];show _++[H.map Hd.pure]=_++[v.l.map Hd.pure];rw[hH,aQa (l:=v.l) om]),(Tq hWc ⟨hhc,hHc⟩)⟩,sb⟩;refine Jz 9 ?_;refine Er [.string c.name,vs Av V qv,vs Aw W qw] fun b128=>?_;refine Jge rfl rfl rfl (Cf jW (i:=7) (j:=0) (el:=(⟨c.name,Av,qv,V,Aw,qw,W⟩:Cm)) rfl s72 rfl rfl rfl rfl rfl om om) ?_;rintro _ _ ⟨A129,q129,rfl,rfl⟩;refine Jz 5 ?_;refine zO 10 rfl (fun hvc=>?_);refine zO 13 rfl (fun hwc=>?_);refine IV (IV (aEe (aHe eX (⟨c.name,Av,qv,V,Aw,qw,W⟩:Cm) (aFt (Lh (Sl O (⟨c.name,Av,qv,V,Aw,qw,W⟩:Cm) (Jz 5 ?_)))))));refine Bp ⟨⟨A129,q129,(O++[(⟨c.name,Av,qv,V,Aw,qw,W⟩:Cm)]),k+1,rfl,rfl,rfl,om,(by rw[aPn,hO,Cy hc,aPn];show _++[(⟨c.name,V,W.map Vs.pure⟩:PC)]=_++[Cm.pure c];rw[hV,hW,aQa (l:=c.vars) om,aQa (l:=c.vers) om];rfl),(Tq hOc ⟨⟨hvc,hwc⟩,hWc⟩)⟩,sb⟩;refine Jz 12 ?_;refine zO 2 rfl (fun hfc=>?_);refine zO 3 rfl (fun hlc=>?_);refine zO 6 rfl (fun hcc=>?_);refine Zx (Zx (Ns (Ns (aHf eX (⟨F.name,Af,qf,Fs,Al,ql,Ls,Ac,qc,O⟩:Fl) (Ee [0] Tryz.results43 ?_)))));exact⟨(⟨F.name,Af,qf,Fs,Al,ql,Ls,Ac,qc,O⟩:Fl),rfl,rfl,⟨⟨hfc,hlc,hcc⟩,hOc⟩,by show(⟨F.name,Fs,Ls,O.map Cm.pure⟩:PF)=⟨F.name,F.flags,F.links,F.comps.map Cm.pure⟩;rw[hFs,hLs,hO,aQa (l:=F.flags) om,aQa (l:=F.links) om,aQa (l:=F.comps) om]⟩
end Go.Proofs.YtihgdnjkofpgiaaGreatDoor

/- Own text. -/
import Derived.Test.YtihgdnjkofpgiaaGreatDoorUa
import Derived.Test.YtihgdnjkofpgiaaGreatDoorUh
import Derived.Test.YtihgdnjkofpgiaaGreatDoorUf
import Derived.Test.YtihgdnjkofpgiaaGreatDoorWc
set_option maxHeartbeats 8000000
set_option maxRecDepth 100000
set_option linter.unusedVariables false
set_option linter.unusedSimpArgs false
namespace Go.Proofs.YtihgdnjkofpgiaaGreatDoor
open Go.Proofs.Tryz
open Go.RowKit Go.Flow Go.Mem Go.Sep Go.In
structure FB where
 F:Fl
 src:yB
 id:Nat→Nat
 pb:Nat
def Va(x:FB):List vU:=x.F.cells++(.string x.src::(idL x.id++[.pointer (some ⟨x.pb,0,none⟩)]))
instance aMl:Enc Va 38:=⟨fun _=>rfl,fun e u hu=>by
 simp only[Va,Fl.cells,aQp,aPi,aPm,aQo,idL,aPx]at hu;rcases hu with(rfl|rfl|rfl|rfl)|rfl|⟨_,_,rfl⟩|rfl<;>rfl⟩
def flk(fb:Nat)(X:FB)(G:List Ad):List Ad:=ros Va (some ⟨fb,0,none⟩) [X]::(X.F.kids eX++G)
theorem Gf{fb:Nat}{X:FB}{G:List Ad}(h:Lax G):Lax (flk fb X G):=gy rfl ((Fl.lax eX X.F).app h)
theorem aIp{fb:Nat}{X:FB}{G:List Ad}:ros Va (some ⟨fb,0,none⟩) [X]∈flk fb X G:=aPc ..
theorem pM{fb:Nat}{X:FB}{G:List Ad}:∀c∈X.F.kids eX,c∈flk fb X G:=fun _ hc=>aPb _ (aRr _ hc)
theorem BV{fb:Nat}{X:FB}{G:List Ad}:∀c∈G,c∈flk fb X G:=fun _ hc=>aPb _ (aRh _ hc)
theorem To.flk{C:Cx}{ρ:Bo}{Γ:List Ad}{K:Act→wD→Prop}{fb:Nat}{G:List Ad}(X:FB)(k:To C ρ (all (Proofs.YtihgdnjkofpgiaaGreatDoor.flk fb X G)::Γ) K):To C ρ (ro (some ⟨fb,0,none⟩) (Va X)::all (X.F.kids eX)::all G::Γ) K:=by
 have e:ro (some ⟨fb,0,none⟩) (Va X)=ros Va (some ⟨fb,0,none⟩) [X]:=by
  show _=ro _ (Va X++[]);rw[aPw]
 rw[e];refine cz (Γ':=all (X.F.kids eX)::all G::ros Va (some ⟨fb,0,none⟩) [X]::Γ) ?_ (Ku (cz (aQn _ _ _) (Cz k)));exact(aPv (l₁:=[_,_])).symm
theorem aFh(F:Fl)(hX:Nk F)(hCap:F.Cap)(R:Nat→List Ad→Prop)(hc:Dz 20 [.agg (cF F []).toArray] [all (F.kids eX),glc,p10c,Fx] (fun v Γ'=>∃(b:Nat) (G:List Ad),v= .tuple #[pv b,iv 0]∧Γ'=[all G]∧Lax G∧R b G)):
    Dz 42 [.agg (cF F []).toArray] [all (F.kids eX),glc,p10c,Fx,Uf] (fun v Γ'=>∃(fb:Nat) (X:FB) (G:List Ad),v= .tuple #[pv fb,iv 0]∧Γ'=[all (flk fb X G)]∧Lax G∧X.F.Cap∧X.F.pure=F.pure∧R X.pb G):=by
 refine Ba func42 ntmps42 fun w0=>?_;refine Js (dh (Jbo fun b1=>?_));refine Jz 7 ?_;refine Cg 1 rfl (F.kids eX) (Fl.lax eX F) (fun z hz=>hz) (Py 3 rfl rfl (Py 5 rfl rfl (az [2,1,0,4] (hc) ?_)));rintro _ _ ⟨pb,G,rfl,rfl,hlx,hR⟩;refine Jz 20 ?_;refine Jqf (WJ F hX hCap) (by show owns (F.kids eX)++(owns gl++(p10c.owns++[]))=[];rw[(Fl.lax eX F).owns];rfl) (ag (au 2 rfl) (ag (au 3 rfl) (ag (au 4 rfl) (af _)))) ?_;rintro _ _ ⟨s1,rfl,rfl,hs1⟩;refine⟨rfl,?_⟩;refine Jz 6 ?_;refine az [2] (zX F hX.low) ?_;rintro _ _ ⟨F2,rfl,rfl,hcp2,hpu2⟩;refine Jz 2 ?_;refine Jmk rfl rfl rfl (GD rfl underlying9 underlying22 underlying5 rfl) ?_;rintro _ _ ⟨b21,q21,rfl,rfl,hq21⟩;refine Jqf (aHs (some ⟨b21,0,none⟩) q21 (byL s1) hq21) rfl (ag (au 0 rfl) (ag (au 6 rfl) (af _))) ?_;rintro _ _ ⟨f,rfl,rfl⟩;refine⟨rfl,?_⟩;refine Jm ?_;refine Jr (.bd (cF F2 [.string s1,ub (f 0),ub (f 1),ub (f 2),ub (f 3),ub (f 4),ub (f 5),ub (f 6),ub (f 7),ub (f 8),ub (f 9),ub (f 10),ub (f 11),ub (f 12),ub (f 13),ub (f 14),ub (f 15),ub (f 16),ub (f 17),ub (f 18),ub (f 19),ub (f 20),ub (f 21),ub (f 22),ub (f 23),ub (f 24),ub (f 25),ub (f 26),ub (f 27),ub (f 28),ub (f 29),ub (f 30),ub (f 31),pv pb])) ?_;refine Jbo fun fb=>?_;refine Jz 5 ?_;refine Zd (Fv (Fv (Ih (To.flk (⟨F2,s1,f,pb⟩:FB) (Gr (Dr (Da (Ck (Cr (Eo (.inl rfl) results42 rfl rfl ?_))))))))));exact⟨fb,⟨F2,s1,f,pb⟩,G,rfl,rfl,hlx,hcp2,hpu2,hR⟩
def atI{α:Type}(l:List α)(i:Int):oP α:=if i<0 then none else l[i.toNat]?
theorem Ua{α:Type}(l:List α)(k:Nat):atI l (k:Int)=l[k]?:=by
 unfold atI;rw[aPf om];rfl
theorem Qx{α:Type}{l:List α}{i:Int}(h:i<0∨(l.length:Int)≤i):atI l i=none:=by
 unfold atI;split
 ·rfl
 ·exact List.getElem?_eq_none om
theorem Lv{α:Type}(l:List α)(i:Int):(i<0∨(l.length:Int)≤i)∨∃(k:Nat) (x:α),i=(k:Int)∧l[k]?=some x:=by
 by_cases h:i<0∨(l.length:Int)≤i
 ·exact .inl h
 · have hk:i.toNat<l.length:=om
   exact .inr ⟨i.toNat,l[i.toNat],by omega,gge hk⟩
def CmZ:Cm:=⟨nE,none,0,[],none,0,[]⟩
def FgZ:Fg:=⟨nE,false⟩
def cmI(F:Fl)(c:Int):Cm:=(atI F.comps c).getD CmZ
def fgI(F:Fl)(c:Int):Fg:=(atI F.flags c).getD FgZ
theorem Sy{F:Fl}{k:Nat}{x:Cm}(h:F.comps[k]?=some x):cmI F (k:Int)=x:=by unfold cmI;rw[Ua,h];rfl
theorem Yx{F:Fl}{c:Int}(h:c<0∨(F.comps.length:Int)≤c):cmI F c=CmZ:=by unfold cmI;rw[Qx h];rfl
theorem aSl{F:Fl}{k:Nat}{x:Fg}(h:F.flags[k]?=some x):fgI F (k:Int)=x:=by unfold fgI;rw[Ua,h];rfl
theorem Ai{F:Fl}{c:Int}(h:c<0∨(F.flags.length:Int)≤c):fgI F c=FgZ:=by unfold fgI;rw[Qx h];rfl
theorem gU{fb:Nat}{X:FB}{G:List Ad}:ro (some ⟨fb,0,none⟩) (Va X)∈flk fb X G:=by
 have e:ro (some ⟨fb,0,none⟩) (Va X)=ros Va (some ⟨fb,0,none⟩) [X]:=by
  show _=ro _ (Va X++[]);rw[aPw]
 rw[e];exact aIp
structure PgN(b:Nat)(A:OA)(q:Nat)(ps:List PP)(G:List Ad):Prop where
 box:ro (some ⟨b,0,none⟩) [vs A ps q]∈G
 row:ros Tz A ps∈G
 nm:∀p∈ps,ros Dc p.An p.names∈G
 lax:Lax G
structure PgX(X:FB)(G:List Ad)(A:OA)(q:Nat)(ps:List PP):Prop where
 pg:PgN X.pb A q ps G
 len:ps.length≤12
 nms:∀p∈ps,p.names.length≤1000
def hnI(ps:List PP)(c:Int):List yB:=match atI ps c with|some p=>p.names|none=>[]
theorem IA{ps:List PP}{k:Nat}{p:PP}(h:ps[k]?=some p):hnI ps (k:Int)=p.names:=by unfold hnI;rw[Ua,h]
theorem XI{ps:List PP}{c:Int}(h:c<0∨(ps.length:Int)≤c):hnI ps c=[]:=by unfold hnI;rw[Qx h]
theorem BX{C:Cx}{ρ:Bo}{Γ:List Ad}{α:Type}{enc:α→List vU}{A:OA}{l:List α}(v i:Nat)(hi:Γ[i]?=some (ros enc A l)){K:Act→wD→Prop}(k:To C ρ (ros enc A (l.take v)::Γ) K):To C ρ Γ K:=fun a w ha hq=>by
 have hm:ros enc A l∈Γ:=av hi;have hx0:l.flatMap enc=(l.take v).flatMap enc++(l.drop v).flatMap enc:=by rw[←aQs,aRa]
 have hh:Src w A ((l.take v).flatMap enc):=by
  have h:Src w A (l.flatMap enc):=hq.sat.each _ hm;rcases h with h|⟨g,off,e,hr⟩
  ·left;rw[hx0]at h;exact(List.append_eq_nil_iff.1 h).1
  · right;refine⟨g,off,e,fun j u hu=>hr j u ?_⟩
    rw[hx0,aQh (aOz.1 hu).1];exact hu
 have hr:∀g∈(ros enc A (l.take v)).reads,g∈(ros enc A l).reads:=fun g hg=>by
  have h1:g∈Iw A ((l.take v).flatMap enc):=hg;show g∈Iw A (l.flatMap enc);rw[hx0];cases h2:(l.take v).flatMap enc with
  |nil=>rw[h2]at h1;cases h1
  |cons y ys=>rw[h2]at h1;exact h1
 have e1:owns (ros enc A (l.take v)::Γ)=owns Γ:=rfl;refine k a w ha ⟨⟨fun x hx=>?_,?_,fun g hg=>?_⟩,hq.keeps,fun g hg=>?_,fun g hg=>?_⟩
 · rcases aPi.1 hx with rfl|h
   ·exact hh
   ·exact hq.sat.each x h
 ·rw[e1];exact hq.sat.nodup
 · rw[e1]
   obtain⟨x,hx,hgx⟩:=dw.1 hg;rcases aPi.1 hx with rfl|h
   ·exact hq.sat.apart g (dw.2 ⟨_,hm,hr g hgx⟩)
   ·exact hq.sat.apart g (dw.2 ⟨x,h,hgx⟩)
 ·rw[e1]at hg;exact hq.own g hg
 · obtain⟨x,hx,hgx⟩:=dw.1 hg
   rcases aPi.1 hx with rfl|h
   ·exact hq.rd g (dw.2 ⟨_,hm,hr g hgx⟩)
   ·exact hq.rd g (dw.2 ⟨x,h,hgx⟩)
def Xg(s:yB):List Hd→oP Nat
 |[]=>none
 |h::r=>if h.name=s then some h.ps.length else Xg s r
def Xh(s:yB):List Vs→oP Nat
 |[]=>none
 |v::r=>match Xg s v.l with|some n=>some n|none=>Xh s r
theorem XJ{s:yB}{l:List Hd}{k:Nat}{h:Hd}(hk:l[k]?=some h)(e:h.name=s):Xg s (l.drop k)=some h.ps.length:=by rw[dog hk];show(if _ then _ else _)=_;rw[aPr e]
theorem QF{s:yB}{l:List Hd}{k:Nat}{h:Hd}(hk:l[k]?=some h)(e:¬h.name=s):Xg s (l.drop k)=Xg s (l.drop (k+1)):=by rw[dog hk];show(if _ then _ else _)=_;rw[aPf e]
theorem aDn{s:yB}{l:List Vs}{k:Nat}{v:Vs}(hk:l[k]?=some v):Xh s (l.drop k)=match Xg s v.l with|some n=>some n|none=>Xh s (l.drop (k+1)):=by rw[dog hk];rfl
def vkN(t:Bool):List Vr→Nat
 |[]=>0
 |x::r=>(if decide (x.ty=3)=t then 1 else 0)+vkN t r
theorem BZ{t:Bool}{l:List Vr}{k:Nat}{x:Vr}(h:l[k]?=some x):vkN t (l.drop k)=(if decide (x.ty=3)=t then 1 else 0)+vkN t (l.drop (k+1)):=by rw[dog h];rfl
theorem tL(n:Nat):decide (((n:Nat):Int)=3)=decide (n=3):=by rw[Bool.eq_iff_iff,aQx,aQx];omega
theorem KZ{t:Bool}{l:List Vr}{k:Nat}{x:Vr}(h:l[k]?=some x)(e:decide (x.ty=3)=t):vkN t (l.drop k)=1+vkN t (l.drop (k+1)):=by rw[BZ h,aPr e]
theorem CB{t:Bool}{l:List Vr}{k:Nat}{x:Vr}(h:l[k]?=some x)(e:¬decide (x.ty=3)=t):vkN t (l.drop k)=vkN t (l.drop (k+1)):=by rw[BZ h,aPf e,aQl]
def pO(s d:yB):List Lk→Int
 |[]=>1
 |l::r=>if l.src=s∧l.dst=d then l.lat else pO s d r
theorem XK{s d:yB}{l:List Lk}{k:Nat}{x:Lk}(h:l[k]?=some x)(e1:x.src=s)(e2:x.dst=d):pO s d (l.drop k)=x.lat:=by rw[dog h];show(if _ then _ else _)=_;rw[aPr ⟨e1,e2⟩]
theorem tN{s d:yB}{l:List Lk}{k:Nat}{x:Lk}(h:l[k]?=some x)(e:¬(x.src=s∧x.dst=d)):pO s d (l.drop k)=pO s d (l.drop (k+1)):=by rw[dog h];show(if _ then _ else _)=_;rw[aPf e]
end Go.Proofs.YtihgdnjkofpgiaaGreatDoor

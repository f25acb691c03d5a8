/- Own text. -/
import Derived.Test.YtihgdnjkofpgiaaGreatDoorUa
import Derived.Test.YtihgdnjkofpgiaaGreatDoorUh
import Derived.Test.YtihgdnjkofpgiaaGreatDoorUf
import Derived.Test.YtihgdnjkofpgiaaGreatDoorWa
set_option maxHeartbeats 8000000
set_option maxRecDepth 100000
set_option linter.unusedVariables false
set_option linter.unusedSimpArgs false
namespace Go.Proofs.YtihgdnjkofpgiaaGreatDoor
open Go.Proofs.Tryz
open Go.RowKit Go.Flow Go.Mem Go.Sep Go.In
structure FB where
 F:Fl
 src:yB
 id:Nat→Nat
 pb:Nat
def Ug(x:FB):List vU:=x.F.cells++(.string x.src::(idL x.id++[.pointer (some ⟨x.pb,0,none⟩)]))
instance aLb:Enc Ug 38:=⟨fun _=>rfl,fun e u hu=>by
 simp only[Ug,Fl.cells,aPi,aNx,aOe,aPh,idL,aOm]at hu;rcases hu with(rfl|rfl|rfl|rfl)|rfl|⟨_,_,rfl⟩|rfl<;>rfl⟩
def flk(fb:Nat)(X:FB)(G:List Ad):List Ad:=ros Ug (some ⟨fb,0,none⟩) [X]::(X.F.kids eX++G)
theorem Er{fb:Nat}{X:FB}{G:List Ad}(h:Lax G):Lax (flk fb X G):=eu rfl ((Fl.lax eX X.F).app h)
theorem aHj{fb:Nat}{X:FB}{G:List Ad}:ros Ug (some ⟨fb,0,none⟩) [X]∈flk fb X G:=aNu ..
theorem iE{fb:Nat}{X:FB}{G:List Ad}:∀c∈X.F.kids eX,c∈flk fb X G:=fun _ hc=>aNs _ (aQk _ hc)
theorem KF{fb:Nat}{X:FB}{G:List Ad}:∀c∈G,c∈flk fb X G:=fun _ hc=>aNs _ (aQb _ hc)
theorem To.flk{C:Cx}{ρ:Bj}{Γ:List Ad}{K:Act→wD→Prop}{fb:Nat}{G:List Ad}(X:FB)(k:To C ρ (all (Proofs.YtihgdnjkofpgiaaGreatDoor.flk fb X G)::Γ) K):To C ρ (ro (some ⟨fb,0,none⟩) (Ug X)::all (X.F.kids eX)::all G::Γ) K:=by
 have e:ro (some ⟨fb,0,none⟩) (Ug X)=ros Ug (some ⟨fb,0,none⟩) [X]:=by
  show _=ro _ (Ug X++[]);rw[aOo]
 rw[e];refine bz (Γ':=all (X.F.kids eX)::all G::ros Ug (some ⟨fb,0,none⟩) [X]::Γ) ?_ (Ko (bz (aPd _ _ _) (Cw k)));exact(aOl (l₁:=[_,_])).symm
theorem aEe(F:Fl)(hX:Mq F)(hCap:F.Cap)(R:Nat→List Ad→Prop)(hc:Dz 20 [.agg (cF F []).toArray] [all (F.kids eX),ay,ax,Gz] (fun v Γ'=>∃(b:Nat) (G:List Ad),v= .tuple #[pv b,iv 0]∧Γ'=[all G]∧Lax G∧R b G)):
    Dz 42 [.agg (cF F []).toArray] [all (F.kids eX),ay,ax,Gz,Xw] (fun v Γ'=>∃(fb:Nat) (X:FB) (G:List Ad),v= .tuple #[pv fb,iv 0]∧Γ'=[all (flk fb X G)]∧Lax G∧X.F.Cap∧X.F.pure=F.pure∧R X.pb G):=by
 refine Ba func42 ntmps42 fun w0=>?_;refine Js (cz (Jbo fun b1=>?_));refine Jz 7 ?_;refine Bv 1 rfl (F.kids eX) (Fl.lax eX F) (fun z hz=>hz) (Qb 3 rfl rfl (Qb 5 rfl rfl (af [2,1,0,4] (hc) ?_)));rintro _ _ ⟨pb,G,rfl,rfl,hlx,hR⟩;refine Jz 20 ?_;refine Jqf (VJ F hX hCap) (by show owns (F.kids eX)++(owns gl++(ax.owns++[]))=[];rw[(Fl.lax eX F).owns];rfl) (jS (lS 2 rfl) (jS (lS 3 rfl) (jS (lS 4 rfl) (jP _)))) ?_;rintro _ _ ⟨s1,rfl,rfl,hs1⟩;refine⟨rfl,?_⟩;refine Jz 6 ?_;refine af [2] (UK F hX.low) ?_;rintro _ _ ⟨F2,rfl,rfl,hcp2,hpu2⟩;refine Jz 2 ?_;refine Jmk rfl rfl rfl (EX rfl underlying9 underlying22 underlying5 rfl) ?_;rintro _ _ ⟨b21,q21,rfl,rfl,hq21⟩;refine Jqf (aGq (some ⟨b21,0,none⟩) q21 (byL s1) hq21) rfl (jS (lS 0 rfl) (jS (lS 6 rfl) (jP _))) ?_;rintro _ _ ⟨f,rfl,rfl⟩;refine⟨rfl,?_⟩;refine Jm ?_;refine Jr (.bd (cF F2 [.string s1,ub (f 0),ub (f 1),ub (f 2),ub (f 3),ub (f 4),ub (f 5),ub (f 6),ub (f 7),ub (f 8),ub (f 9),ub (f 10),ub (f 11),ub (f 12),ub (f 13),ub (f 14),ub (f 15),ub (f 16),ub (f 17),ub (f 18),ub (f 19),ub (f 20),ub (f 21),ub (f 22),ub (f 23),ub (f 24),ub (f 25),ub (f 26),ub (f 27),ub (f 28),ub (f 29),ub (f 30),ub (f 31),pv pb])) ?_;refine Jbo fun fb=>?_;refine Jz 5 ?_;refine Sm (Fj (Fj (Ig (To.flk (⟨F2,s1,f,pb⟩:FB) (Gl (Df (Cr (Cb (Ci (Ei (.inl rfl) results42 rfl rfl ?_))))))))));exact⟨fb,⟨F2,s1,f,pb⟩,G,rfl,rfl,hlx,hcp2,hpu2,hR⟩
def atI{α:Type}(l:List α)(i:Int):oP α:=if i<0 then none else l[i.toNat]?
theorem dQ{α:Type}(l:List α)(k:Nat):atI l (k:Int)=l[k]?:=by
 unfold atI;rw[aNy om];rfl
theorem Xz{α:Type}{l:List α}{i:Int}(h:i<0∨(l.length:Int)≤i):atI l i=none:=by
 unfold atI;split
 ·rfl
 ·exact List.getElem?_eq_none om
theorem Ng{α:Type}(l:List α)(i:Int):(i<0∨(l.length:Int)≤i)∨∃(k:Nat) (x:α),i=(k:Int)∧l[k]?=some x:=by
 by_cases h:i<0∨(l.length:Int)≤i
 ·exact .inl h
 · have hk:i.toNat<l.length:=om
   exact .inr ⟨i.toNat,l[i.toNat],by omega,gge hk⟩
def CmZ:Cm:=⟨nE,none,0,[],none,0,[]⟩
def cmI(F:Fl)(c:Int):Cm:=(atI F.comps c).getD CmZ
theorem Vo{F:Fl}{k:Nat}{x:Cm}(h:F.comps[k]?=some x):cmI F (k:Int)=x:=by unfold cmI;rw[dQ,h];rfl
theorem dR{F:Fl}{c:Int}(h:c<0∨(F.comps.length:Int)≤c):cmI F c=CmZ:=by unfold cmI;rw[Xz h];rfl
theorem vR{fb:Nat}{X:FB}{G:List Ad}:ro (some ⟨fb,0,none⟩) (Ug X)∈flk fb X G:=by
 have e:ro (some ⟨fb,0,none⟩) (Ug X)=ros Ug (some ⟨fb,0,none⟩) [X]:=by
  show _=ro _ (Ug X++[]);rw[aOo]
 rw[e];exact aHj
structure PgN(b:Nat)(A:OA)(q:Nat)(ps:List PP)(G:List Ad):Prop where
 box:ro (some ⟨b,0,none⟩) [vs A ps q]∈G
 row:ros dO A ps∈G
 nm:∀p∈ps,ros Da p.An p.names∈G
 lax:Lax G
structure PgX(X:FB)(G:List Ad)(A:OA)(q:Nat)(ps:List PP):Prop where
 pg:PgN X.pb A q ps G
 len:ps.length≤12
 nms:∀p∈ps,p.names.length≤1000
def hnI(ps:List PP)(c:Int):List yB:=match atI ps c with|some p=>p.names|none=>[]
theorem aHk{ps:List PP}{k:Nat}{p:PP}(h:ps[k]?=some p):hnI ps (k:Int)=p.names:=by unfold hnI;rw[dQ,h]
theorem WA{ps:List PP}{c:Int}(h:c<0∨(ps.length:Int)≤c):hnI ps c=[]:=by unfold hnI;rw[Xz h]
theorem AB{C:Cx}{ρ:Bj}{Γ:List Ad}{α:Type}{enc:α→List vU}{A:OA}{l:List α}(v i:Nat)(hi:Γ[i]?=some (ros enc A l)){K:Act→wD→Prop}(k:To C ρ (ros enc A (l.take v)::Γ) K):To C ρ Γ K:=fun a w ha hq=>by
 have hm:ros enc A l∈Γ:=sN hi;have hx0:l.flatMap enc=(l.take v).flatMap enc++(l.drop v).flatMap enc:=by rw[←aPm,aPn]
 have hh:Src w A ((l.take v).flatMap enc):=by
  have h:Src w A (l.flatMap enc):=hq.sat.each _ hm;rcases h with h|⟨g,off,e,hr⟩
  ·left;rw[hx0]at h;exact(List.append_eq_nil_iff.1 h).1
  · right;refine⟨g,off,e,fun j u hu=>hr j u ?_⟩
    rw[hx0,aOu (aNr.1 hu).1];exact hu
 have hr:∀g∈(ros enc A (l.take v)).reads,g∈(ros enc A l).reads:=fun g hg=>by
  have h1:g∈Jc A ((l.take v).flatMap enc):=hg;show g∈Jc A (l.flatMap enc);rw[hx0];cases h2:(l.take v).flatMap enc with
  |nil=>rw[h2]at h1;cases h1
  |cons y ys=>rw[h2]at h1;exact h1
 have e1:owns (ros enc A (l.take v)::Γ)=owns Γ:=rfl;refine k a w ha ⟨⟨fun x hx=>?_,?_,fun g hg=>?_⟩,hq.keeps,fun g hg=>?_,fun g hg=>?_⟩
 · rcases aNx.1 hx with rfl|h
   ·exact hh
   ·exact hq.sat.each x h
 ·rw[e1];exact hq.sat.nodup
 · rw[e1]
   obtain⟨x,hx,hgx⟩:=dm.1 hg;rcases aNx.1 hx with rfl|h
   ·exact hq.sat.apart g (dm.2 ⟨_,hm,hr g hgx⟩)
   ·exact hq.sat.apart g (dm.2 ⟨x,h,hgx⟩)
 ·rw[e1]at hg;exact hq.own g hg
 · obtain⟨x,hx,hgx⟩:=dm.1 hg
   rcases aNx.1 hx with rfl|h
   ·exact hq.rd g (dm.2 ⟨_,hm,hr g hgx⟩)
   ·exact hq.rd g (dm.2 ⟨x,h,hgx⟩)
def pF(s:yB):List Hd→oP Nat
 |[]=>none
 |h::r=>if h.name=s then some h.ps.length else pF s r
def dS(s:yB):List Vs→oP Nat
 |[]=>none
 |v::r=>match pF s v.l with|some n=>some n|none=>dS s r
theorem WB{s:yB}{l:List Hd}{k:Nat}{h:Hd}(hk:l[k]?=some h)(e:h.name=s):pF s (l.drop k)=some h.ps.length:=by rw[dog hk];show(if _ then _ else _)=_;rw[aOn e]
theorem PI{s:yB}{l:List Hd}{k:Nat}{h:Hd}(hk:l[k]?=some h)(e:¬h.name=s):pF s (l.drop k)=pF s (l.drop (k+1)):=by rw[dog hk];show(if _ then _ else _)=_;rw[aNy e]
theorem aCj{s:yB}{l:List Vs}{k:Nat}{v:Vs}(hk:l[k]?=some v):dS s (l.drop k)=match pF s v.l with|some n=>some n|none=>dS s (l.drop (k+1)):=by rw[dog hk];rfl
def vkN(t:Bool):List Vr→Nat
 |[]=>0
 |x::r=>(if decide (x.ty=3)=t then 1 else 0)+vkN t r
theorem AJ{t:Bool}{l:List Vr}{k:Nat}{x:Vr}(h:l[k]?=some x):vkN t (l.drop k)=(if decide (x.ty=3)=t then 1 else 0)+vkN t (l.drop (k+1)):=by rw[dog h];rfl
theorem aEf(n:Nat):decide (((n:Nat):Int)=3)=decide (n=3):=by rw[Bool.eq_iff_iff,aPf,aPf];omega
theorem aCk{t:Bool}{l:List Vr}{k:Nat}{x:Vr}(h:l[k]?=some x)(e:decide (x.ty=3)=t):vkN t (l.drop k)=1+vkN t (l.drop (k+1)):=by rw[AJ h,aOn e]
theorem WC{t:Bool}{l:List Vr}{k:Nat}{x:Vr}(h:l[k]?=some x)(e:¬decide (x.ty=3)=t):vkN t (l.drop k)=vkN t (l.drop (k+1)):=by rw[AJ h,aNy e,aOz]
def Ya(s d:yB):List Lk→Int
 |[]=>1
 |l::r=>if l.src=s∧l.dst=d then l.lat else Ya s d r
theorem AL{s d:yB}{l:List Lk}{k:Nat}{x:Lk}(h:l[k]?=some x)(e1:x.src=s)(e2:x.dst=d):Ya s d (l.drop k)=x.lat:=by rw[dog h];show(if _ then _ else _)=_;rw[aOn ⟨e1,e2⟩]
theorem Yy{s d:yB}{l:List Lk}{k:Nat}{x:Lk}(h:l[k]?=some x)(e:¬(x.src=s∧x.dst=d)):Ya s d (l.drop k)=Ya s d (l.drop (k+1)):=by rw[dog h];show(if _ then _ else _)=_;rw[aNy e]
theorem Sb(fb:Nat)(X:FB)(G:List Ad)(hG:Lax G):
    Dz 28 [pv fb] [all (flk fb X G)] (fun v Γ'=>v=nv X.F.comps.length∧Γ'=[]):=by
 refine Ba func28 ntmps28 fun w0=>?_;refine Jz 7 ?_;refine bv 0 rfl (ro (some ⟨fb,0,none⟩) [.string X.F.name,vs X.F.Af X.F.flags X.F.qf,vs X.F.Al X.F.links X.F.ql,vs X.F.Ac X.F.comps X.F.qc, .string X.src,ub (X.id 0),ub (X.id 1),ub (X.id 2),ub (X.id 3),ub (X.id 4),ub (X.id 5),ub (X.id 6),ub (X.id 7),ub (X.id 8),ub (X.id 9),ub (X.id 10),ub (X.id 11),ub (X.id 12),ub (X.id 13),ub (X.id 14),ub (X.id 15),ub (X.id 16),ub (X.id 17),ub (X.id 18),ub (X.id 19),ub (X.id 20),ub (X.id 21),ub (X.id 22),ub (X.id 23),ub (X.id 24),ub (X.id 25),ub (X.id 26),ub (X.id 27),ub (X.id 28),ub (X.id 29),ub (X.id 30),ub (X.id 31), .pointer (some ⟨X.pb,0,none⟩)]) rfl (vR) (Jz 2 ?_);refine Jr (Jg rfl underlying27 rfl rfl) ?_;refine Jz 11 ?_;refine Jr (Cq (i:=0) rfl rfl c72 rfl (Ev (A:=some ⟨fb,0,none⟩) (o:=3) (k:=1) rfl)) ?_;refine Jz 5 ?_;refine Ci (Cg (ak results28 ?_));exact⟨rfl,rfl⟩
theorem Vp(fb:Nat)(X:FB)(G:List Ad)(hG:Lax G)(k:Nat)(x:Cm)(hx:X.F.comps[k]?=some x):
    Dz 44 [pv fb,nv k] [all (flk fb X G)] (fun v Γ'=>v= .agg (cX x []).toArray∧Γ'=[]):=by
 have hkl:k<X.F.comps.length:=(aNr.1 hx).1;refine Ba func44 ntmps44 fun w0=>?_;refine Js (cz (ae fun b4=>?_));refine Jz 4 ?_;refine bv 1 rfl (ro (some ⟨fb,0,none⟩) [.string X.F.name,vs X.F.Af X.F.flags X.F.qf,vs X.F.Al X.F.links X.F.ql,vs X.F.Ac X.F.comps X.F.qc, .string X.src,ub (X.id 0),ub (X.id 1),ub (X.id 2),ub (X.id 3),ub (X.id 4),ub (X.id 5),ub (X.id 6),ub (X.id 7),ub (X.id 8),ub (X.id 9),ub (X.id 10),ub (X.id 11),ub (X.id 12),ub (X.id 13),ub (X.id 14),ub (X.id 15),ub (X.id 16),ub (X.id 17),ub (X.id 18),ub (X.id 19),ub (X.id 20),ub (X.id 21),ub (X.id 22),ub (X.id 23),ub (X.id 24),ub (X.id 25),ub (X.id 26),ub (X.id 27),ub (X.id 28),ub (X.id 29),ub (X.id 30),ub (X.id 31), .pointer (some ⟨X.pb,0,none⟩)]) rfl (vR) (bv 2 rfl (ros Gu X.F.Ac X.F.comps) rfl (iE _ (Gj (k:=eX))) (Jz 3 ?_));refine JgP ?_ ?_<;>intro g7;exact aOx g7 om;refine Jz 2 ?_;refine Jqf (Sb fb X G hG) (by show owns (flk fb X G)++[]=[];rw[(Er hG).owns];rfl) (jS (lS 3 rfl) (jP _)) ?_;rintro _ _ ⟨rfl,rfl⟩;refine⟨rfl,?_⟩;refine Jz 4 ?_;refine aa rfl ?_ ?_<;>intro c12;exact aOx c12 om;refine Jz 8 ?_;refine Jr (Cq (i:=1) rfl rfl c72 rfl (Ev (A:=some ⟨fb,0,none⟩) (o:=3) (k:=1) rfl)) ?_;refine Jz 7 ?_;refine Ec [] results44 ?_;exact⟨rfl,rfl⟩
theorem FU(fb:Nat)(X:FB)(G:List Ad)(hG:Lax G)(c:Int)(hc:c<0∨(X.F.comps.length:Int)≤c):
    Dz 44 [pv fb,iv c] [all (flk fb X G)] (fun v Γ'=>v= .agg #[.string nE,nz,nz]∧Γ'=[]):=by
 refine Ba func44 ntmps44 fun w0=>?_;refine Js (cz (ae fun b4=>?_));refine Jz 7 ?_;refine JgP ?_ ?_<;>intro g7;refine Jz 10 ?_;refine Jr (.bd [.string bE,nz,nz]) ?_;refine Jz 5 ?_;refine Ec [] results44 ?_;exact⟨rfl,rfl⟩;refine Jz 2 ?_;refine Jqf (Sb fb X G hG) (by show owns (flk fb X G)++[]=[];rw[(Er hG).owns];rfl) (jS (lS 1 rfl) (jP _)) ?_;rintro _ _ ⟨rfl,rfl⟩;refine⟨rfl,?_⟩;refine Jz 4 ?_;refine aa rfl ?_ ?_<;>intro c12;refine Js (cz (Jr (.bd [.string bE,nz,nz]) ?_));refine Jz 5 ?_;refine Ec [] results44 ?_;exact⟨rfl,rfl⟩;exact aOx hc om
theorem fP(fb:Nat)(X:FB)(G:List Ad)(hG:Lax G)(c:Int):Dz 44 [pv fb,iv c] [all (flk fb X G)] (fun v Γ'=>v= .agg #[.string (cmI X.F c).name, .slice (cmI X.F c).Av (cmI X.F c).vars.length (cmI X.F c).qv, .slice (cmI X.F c).An (cmI X.F c).vers.length (cmI X.F c).qn]∧Γ'=[]):=by
 rcases Ng X.F.comps c with h|⟨k,x,rfl,h⟩
 ·rw[dR h];exact FU fb X G hG c h
 ·rw[Vo h];exact Vp fb X G hG k x h
theorem fQ(fb:Nat)(X:FB)(G:List Ad)(hG:Lax G)(c:Int):
    Dz 34 [pv fb,iv c] [all (flk fb X G)] (fun v Γ'=>v= .string ((cmI X.F c).name)∧Γ'=[]):=by
 refine Ba func34 ntmps34 fun w0=>?_;refine Jz 9 ?_;refine Jqf (fP fb X G hG c) (by show owns (flk fb X G)++[]=[];rw[(Er hG).owns];rfl) (jS (lS 0 rfl) (jP _)) ?_;rintro _ _ ⟨rfl,rfl⟩;refine⟨rfl,?_⟩;refine Jr (Yh (vs:=[.string ((cmI X.F c).name), .slice ((cmI X.F c).Av) ((cmI X.F c).vars.length) ((cmI X.F c).qv), .slice ((cmI X.F c).An) ((cmI X.F c).vers.length) ((cmI X.F c).qn)]) rfl underlying107 rfl underlying9 rfl rfl rfl) ?_;refine Jz 4 ?_;refine Cg (ak results34 ?_);exact⟨rfl,rfl⟩
theorem FV(fb:Nat)(X:FB)(G:List Ad)(A:OA)(q:Nat)(ps:List PP)(hP:PgX X G A q ps)(k:Nat)(p:PP)(hp:ps[k]?=some p):
    Dz 45 [.pointer (some ⟨X.pb,0,none⟩),nv k] [all (flk fb X G)] (fun v Γ'=>∃(B:OA) (r:Nat),v=vs B p.names r∧Γ'=[rows Da 9 1 B r p.names]):=by
 have hkp:k<ps.length:=(aNr.1 hp).1;have hnl:=hP.nms p (sN hp);refine Ba func45 ntmps45 fun w0=>?_;refine Jz 7 ?_;refine bv 0 rfl (ro (some ⟨X.pb,0,none⟩) [vs A ps q]) rfl (KF _ hP.pg.box) (bv 1 rfl (ros dO A ps) rfl (KF _ hP.pg.row) (Jz 2 ?_));refine Jr (Jg rfl underlying66 rfl rfl) ?_;refine Jz 4 ?_;refine JgP ?_ ?_<;>intro g11;exact aOx g11 om;refine Jz 4 ?_;refine Jr (Cq (i:=1) rfl rfl SN rfl (Ev (A:=some ⟨X.pb,0,none⟩) (o:=0) (k:=1) rfl)) ?_;refine Jz 5 ?_;refine aa rfl ?_ ?_<;>intro k19;exact aOx k19 om;refine Jz 3 ?_;refine bv 2 rfl (ros Da p.An p.names) rfl (KF _ (hP.pg.nm p (sN hp))) (Jz 4 ?_);refine Jr (Cq (i:=2) rfl rfl SN rfl (Ev (A:=some ⟨X.pb,0,none⟩) (o:=0) (k:=1) rfl)) ?_;refine Jz 4 ?_;refine Jqf (OX p.An p.qn p.names om) rfl (jS (lS 0 rfl) (jP _)) ?_;rintro _ _ ⟨Bn,pn,rfl,rfl⟩;refine⟨rfl,?_⟩;refine Jz 4 ?_;refine Df (Cr (Cb (Ci (ak results45 ?_))));exact⟨_,_,rfl,rfl⟩
theorem FW(fb:Nat)(X:FB)(G:List Ad)(A:OA)(q:Nat)(ps:List PP)(hP:PgX X G A q ps)(c:Int)(hc:c<0∨(ps.length:Int)≤c):
    Dz 45 [.pointer (some ⟨X.pb,0,none⟩),iv c] [all (flk fb X G)] (fun v Γ'=>v= .slice none 0 0∧Γ'=[]):=by
 refine Ba func45 ntmps45 fun w0=>?_;refine Jz 7 ?_;refine bv 0 rfl (ro (some ⟨X.pb,0,none⟩) [vs A ps q]) rfl (KF _ hP.pg.box) (Jz 2 ?_);refine Jr (Jg rfl underlying66 rfl rfl) ?_;refine Jz 4 ?_;refine JgP ?_ ?_<;>intro g11;refine Jz 18 ?_;refine Ci (Cg (ak results45 ?_));exact⟨rfl,rfl⟩;refine Jz 4 ?_;refine Jr (Cq (i:=0) rfl rfl SN rfl (Ev (A:=some ⟨X.pb,0,none⟩) (o:=0) (k:=1) rfl)) ?_;refine Jz 5 ?_;refine aa rfl ?_ ?_<;>intro c19;refine Jz 7 ?_;refine Ci (Cg (ak results45 ?_));exact⟨rfl,rfl⟩;exact aOx hc om
theorem PK(fb:Nat)(X:FB)(G:List Ad)(A:OA)(q:Nat)(ps:List PP)(hP:PgX X G A q ps)(c:Int):Dz 45 [.pointer (some ⟨X.pb,0,none⟩),iv c] [all (flk fb X G)] (fun v Γ'=>∃(B:OA) (r:Nat),v= .slice B (hnI ps c).length r∧Γ'=[rows Da 9 1 B r (hnI ps c)]):=by
 rcases Ng ps c with h|⟨k,p,rfl,h⟩
 ·rw[WA h];exact(PG (FW fb X G A q ps hP c h)).mono fun v Γ' ⟨h1,h2⟩=>⟨none,0,h1,h2⟩
 ·rw[aHk h];exact FV fb X G A q ps hP k p h
theorem fU(fb:Nat)(X:FB)(G:List Ad)(A:OA)(q:Nat)(ps:List PP)(hP:PgX X G A q ps)(c:Int):
    Dz 15 [pv fb,iv c] [all (flk fb X G)] (fun v Γ'=>∃(B:OA) (r:Nat),v= .slice B (hnI ps c).length r∧Γ'=[rows Da 9 1 B r (hnI ps c)]):=by
 refine Ba func15 ntmps15 fun w0=>?_;refine Jz 9 ?_;refine Jr (Jg rfl underlying27 rfl rfl) ?_;refine Jz 6 ?_;refine bv 0 rfl (ro (some ⟨fb,0,none⟩) [.string X.F.name,vs X.F.Af X.F.flags X.F.qf,vs X.F.Al X.F.links X.F.ql,vs X.F.Ac X.F.comps X.F.qc, .string X.src,ub (X.id 0),ub (X.id 1),ub (X.id 2),ub (X.id 3),ub (X.id 4),ub (X.id 5),ub (X.id 6),ub (X.id 7),ub (X.id 8),ub (X.id 9),ub (X.id 10),ub (X.id 11),ub (X.id 12),ub (X.id 13),ub (X.id 14),ub (X.id 15),ub (X.id 16),ub (X.id 17),ub (X.id 18),ub (X.id 19),ub (X.id 20),ub (X.id 21),ub (X.id 22),ub (X.id 23),ub (X.id 24),ub (X.id 25),ub (X.id 26),ub (X.id 27),ub (X.id 28),ub (X.id 29),ub (X.id 30),ub (X.id 31), .pointer (some ⟨X.pb,0,none⟩)]) rfl (vR) (Jz 4 ?_);refine Jr (Cq (i:=0) rfl rfl c66 rfl (Ev (A:=some ⟨fb,0,none⟩) (o:=37) (k:=1) rfl)) ?_;refine Jm ?_;refine Jqf (PK fb X G A q ps hP c) (by show owns (flk fb X G)++[]=[];rw[(Er hP.pg.lax).owns];rfl) (jS (lS 1 rfl) (jP _)) ?_;rintro _ _ ⟨Bn,pn,rfl,rfl⟩;refine⟨rfl,?_⟩;refine Jz 4 ?_;refine Cb (Ci (ak results15 ?_));exact⟨_,_,rfl,rfl⟩
theorem AO(fb:Nat)(X:FB)(G:List Ad)(A:OA)(q:Nat)(ps:List PP)(hP:PgX X G A q ps)(c v h:Int)(hbad:v<1∨((cmI X.F c).vers.length:Int)<v∨h<0∨((hnI ps c).length:Int)≤h):
    Dz 17 [pv fb,iv c,iv v,iv h] [all (flk fb X G)] (fun v Γ'=>v= .tuple #[iv 0,bf]∧Γ'=[]):=by
 refine Ba func17 ntmps17 fun w0=>?_;refine Jz 10 ?_;refine Jqf (fP fb X G hP.pg.lax c) (by show owns (flk fb X G)++[]=[];rw[(Er hP.pg.lax).owns];rfl) (jS (lS 0 rfl) (jP _)) ?_;rintro _ _ ⟨rfl,rfl⟩;refine⟨rfl,?_⟩;refine Jz 2 ?_;refine Jqf (fU fb X G A q ps hP c) (by show owns (flk fb X G)++[]=[];rw[(Er hP.pg.lax).owns];rfl) (jS (lS 0 rfl) (jP _)) ?_;rintro _ _ ⟨Bn,pn,rfl,rfl⟩;refine⟨rfl,?_⟩;refine ae fun b10=>?_;refine Jz 9 ?_;refine JgP ?_ ?_<;>intro g24;refine Jz 27 ?_;refine Cb (Ci (Cg (Ei (.inl rfl) results17 rfl rfl ?_)));exact⟨rfl,rfl⟩;refine Jz 6 ?_;refine JgP ?_ ?_<;>intro g31;refine Jz 20 ?_;refine Cb (Ci (Cg (Ei (.inl rfl) results17 rfl rfl ?_)));exact⟨rfl,rfl⟩;refine Jz 3 ?_;refine JgP ?_ ?_<;>intro g35;refine Jz 16 ?_;refine Cb (Ci (Cg (Ei (.inl rfl) results17 rfl rfl ?_)));exact⟨rfl,rfl⟩;refine Jz 7 ?_;refine aa rfl ?_ ?_<;>intro k40;refine Jz 8 ?_;refine Cb (Ci (Cg (Ei (.inl rfl) results17 rfl rfl ?_)));exact⟨rfl,rfl⟩;exact aOx hbad om
theorem WE(fb:Nat)(X:FB)(G:List Ad)(A:OA)(q:Nat)(ps:List PP)(hP:PgX X G A q ps)(hC:X.F.Cap)(k:Nat)(x:Cm)(hx:X.F.comps[k]?=some x)(v h:Nat)(hv1:1≤v)(hv2:v≤x.vers.length)(nm:yB)(hnm:(hnI ps (k:Int))[h]?=some nm)(hvl:x.vers.length≤1000)(hhl:∀y∈x.vers,y.l.length≤1000):
    Dz 17 [pv fb,nv k,nv v,nv h] [all (flk fb X G)] (fun r Γ'=>r= .tuple #[nv ((dS nm (x.vers.take v)).getD 0), .bool (dS nm (x.vers.take v)).isSome]∧Γ'=[]):=by
 have hhn:h<(hnI ps (k:Int)).length:=(aNr.1 hnm).1;have hqn:x.vers.length≤x.qn:=(hC.2 x (sN hx)).1.2;have htk:(x.vers.take v).length=v:=by rw[aOh];omega
 refine Ba func17 ntmps17 fun w0=>?_;refine Jz 10 ?_;refine Jqf (Vp fb X G hP.pg.lax k x hx) (by show owns (flk fb X G)++[]=[];rw[(Er hP.pg.lax).owns];rfl) (jS (lS 0 rfl) (jP _)) ?_;rintro _ _ ⟨rfl,rfl⟩;refine⟨rfl,?_⟩;refine Jz 2 ?_;refine Jqf (fU fb X G A q ps hP (k:Int)) (by show owns (flk fb X G)++[]=[];rw[(Er hP.pg.lax).owns];rfl) (jS (lS 0 rfl) (jP _)) ?_;rintro _ _ ⟨Bn,pn,rfl,rfl⟩;refine⟨rfl,?_⟩;refine ae fun b10=>?_;refine Jz 9 ?_;refine JgP ?_ ?_<;>intro g24;exact aOx g24 om;refine Jz 6 ?_;refine JgP ?_ ?_<;>intro g31;exact aOx g31 om;refine Jz 3 ?_;refine JgP ?_ ?_<;>intro g35;exact aOx g35 om;refine Jz 7 ?_;refine aa rfl ?_ ?_<;>intro k40
 first|exact aOx c40 om|exact aOx k40 om|exact aOx g40 om
 refine Jz 4 ?_;refine bv 2 rfl (ros Fb x.An x.vers) rfl (iE _ (Dh hx _ (Ij (k:=eX)))) (AB v 0 rfl (Jz 4 ?_));refine Jr (Cs (v':= .slice x.An (x.vers.take v).length x.qn) (by rw[htk]) (Gi (hi:=v) rfl ZO rfl rfl om)) ?_;refine Jz 5 ?_;refine Bw (fun s g mz ρ Γ=>∃(j:Nat),ρ=[s 0,s 3,s 11,s 44,s 45,(46,nv j)]∧Γ=[g 4,g 0,g 3]∧mz=(x.vers.take v).length-j∧(j≤(x.vers.take v).length)∧(dS nm (x.vers.take v)=dS nm ((x.vers.take v).drop j))) ⟨⟨0,rfl,rfl,rfl,om,rfl⟩,sb⟩ ?_;rintro mz _ _ ⟨j,rfl,rfl,rfl,hj,hS⟩;refine Jz 6 ?_;refine aa rfl ?_ ?_<;>intro k47;obtain⟨y,hy⟩:=ai (x.vers.take v) j om;refine Jz 8 ?_;refine ae fun b13=>?_;refine Jz 12 ?_;have hyv:x.vers[j]?=some y:=by rw[aQc,aOn om]at hy;exact hy
 have hyl:=hhl y (sN hyv);refine bv 1 rfl (ros Iu y.A y.l) rfl (iE _ (Dh hx _ (Gw hyv _ (Qs (k:=eX))))) (Bw (fun s g mz ρ Γ=>∃(k2:Nat),ρ=[s 0,s 3,s 11,s 44,s 45,s 46,s 51,s 52,(53,nv k2)]∧Γ=[g 2,g 3,g 0,g 4]∧mz=y.l.length-k2∧(k2≤y.l.length)∧(dS nm (x.vers.take v)=match pF nm (y.l.drop k2)with|some n=>some n|none=>dS nm ((x.vers.take v).drop (j+1)))) ⟨⟨0,rfl,rfl,rfl,om,(by rw[hS,aCj hy];rfl)⟩,sb⟩ ?_);rintro mz _ _ ⟨k2,rfl,rfl,rfl,hk,hT⟩;refine Jz 6 ?_;refine aa rfl ?_ ?_<;>intro k54;obtain⟨z,hz⟩:=ai y.l k2 om;refine Jz 8 ?_;refine ae fun b15=>?_;refine Jz 4 ?_;refine Jfw [] [0,2,3,101,104,105,6] (jP _) ?_;refine Jz 6 ?_;refine df rfl (Jb rfl rfl rfl) ?_;refine Jz 2 ?_;refine aa rfl ?_ ?_<;>intro k63;refine Jz 19 ?_;refine Df (Cr (Cb (Ci (Cg (Ei (.inl rfl) results17 rfl rfl ?_)))));have hr:dS nm (x.vers.take v)=some z.ps.length:=by rw[hT,WB hz k63]
 rw[hr];exact⟨rfl,rfl⟩;refine Jz 8 ?_;refine Bp ⟨⟨k2+1,rfl,rfl,rfl,om,(by rw[hT,PI hz k63])⟩,sb⟩;refine Jz 11 ?_;refine Bp ⟨⟨j+1,rfl,rfl,rfl,om,(by rw[hT,aPz om];rfl)⟩,sb⟩;refine Jz 12 ?_;refine Cb (Ci (Cg (Ei (.inl rfl) results17 rfl rfl ?_)));have hr:dS nm (x.vers.take v)=none:=by rw[hS,aPz om];rfl
 rw[hr];exact⟨rfl,rfl⟩
theorem PL(fb:Nat)(X:FB)(G:List Ad)(hG:Lax G)(c p:Int)(hbad:p<0∨((cmI X.F c).vars.length:Int)≤p):
    Dz 12 [pv fb,iv c,iv p] [all (flk fb X G)] (fun v Γ'=>v= .tuple #[iv 0,bf,bf]∧Γ'=[]):=by
 refine Ba func12 ntmps12 fun w0=>?_;refine Jz 11 ?_;refine Jqf (fP fb X G hG c) (by show owns (flk fb X G)++[]=[];rw[(Er hG).owns];rfl) (jS (lS 0 rfl) (jP _)) ?_;rintro _ _ ⟨rfl,rfl⟩;refine⟨rfl,?_⟩;refine Jr (Yh (vs:=[.string ((cmI X.F c).name), .slice ((cmI X.F c).Av) ((cmI X.F c).vars.length) ((cmI X.F c).qv), .slice ((cmI X.F c).An) ((cmI X.F c).vers.length) ((cmI X.F c).qn)]) rfl underlying107 rfl underlying88 rfl rfl rfl) ?_;refine Jz 8 ?_;refine JgP ?_ ?_<;>intro g18;refine Jz 17 ?_;refine Cg (Rk (.inl rfl) results12 rfl rfl rfl ?_);exact⟨rfl,rfl⟩;refine Jz 7 ?_;refine aa rfl ?_ ?_<;>intro k23;refine Jz 9 ?_;refine Cg (Rk (.inl rfl) results12 rfl rfl rfl ?_);exact⟨rfl,rfl⟩;exact aOx hbad om
theorem PM(fb:Nat)(X:FB)(G:List Ad)(hG:Lax G)(hC:X.F.Cap)(k:Nat)(x:Cm)(hx:X.F.comps[k]?=some x)(p:Nat)(z:Vr)(hz:x.vars[p]?=some z)(hvl:x.vars.length≤1000):
    Dz 12 [pv fb,nv k,nv p] [all (flk fb X G)] (fun r Γ'=>r= .tuple #[nv (vkN (decide (z.ty=3)) (x.vars.take p)), .bool (decide (z.ty=3)),bt]∧Γ'=[]):=by
 have hpl:p<x.vars.length:=(aNr.1 hz).1;have hqv:x.vars.length≤x.qv:=(hC.2 x (sN hx)).1.1;have htk:(x.vars.take p).length=p:=by rw[aOh];omega
 refine Ba func12 ntmps12 fun w0=>?_;refine Jz 11 ?_;refine Jqf (Vp fb X G hG k x hx) (by show owns (flk fb X G)++[]=[];rw[(Er hG).owns];rfl) (jS (lS 0 rfl) (jP _)) ?_;rintro _ _ ⟨rfl,rfl⟩;refine⟨rfl,?_⟩;refine Jr (Yh (vs:=(cX x [])) rfl underlying107 rfl underlying88 rfl rfl rfl) ?_;refine Jz 8 ?_;refine JgP ?_ ?_<;>intro g18
 first|exact aOx c18 om|exact aOx k18 om|exact aOx g18 om
 refine Jz 7 ?_;refine aa rfl ?_ ?_<;>intro k23
 first|exact aOx c23 om|exact aOx k23 om|exact aOx g23 om
 refine Jz 3 ?_;refine bv 0 rfl (ros He x.Av x.vars) rfl (iE _ (Dh hx _ (Nc (k:=eX)))) (Jz 6 ?_);refine Jr (Cs (v':= .bool (decide (z.ty=3))) (by rw[aEf]) (Rd.eql rfl rfl rfl)) ?_;refine Jz 5 ?_;refine AB p 0 rfl (Jz 3 ?_);refine Jr (Cs (v':= .slice x.Av (x.vars.take p).length x.qv) (by rw[htk]) (Gi (hi:=p) rfl s88 rfl rfl om)) ?_;refine Jz 5 ?_;refine Bw (fun s g mz ρ Γ=>∃(n:Nat) (j:Nat),ρ=[(6,nv n),s 7,s 32,s 33,(34,nv j)]∧Γ=[g 2,g 0]∧mz=(x.vars.take p).length-j∧(j≤(x.vars.take p).length)∧(n≤j)∧(vkN (decide (z.ty=3)) (x.vars.take p)=n+vkN (decide (z.ty=3)) ((x.vars.take p).drop j))) ⟨⟨0,0,rfl,rfl,rfl,om,(aOd _),(by rw[List.drop_zero];omega)⟩,sb⟩ ?_;rintro mz _ _ ⟨n,j,rfl,rfl,rfl,hj,hn,hS⟩;refine Jz 6 ?_;refine aa rfl ?_ ?_<;>intro k35;obtain⟨y,hy⟩:=ai (x.vars.take p) j om;refine Jz 8 ?_;refine ae fun b11=>?_;refine Jz 7 ?_;refine Jr (Cs (v':= .bool (decide (y.ty=3))) (by rw[aEf]) (Rd.eql rfl rfl rfl)) ?_;refine Jm ?_;refine Jr (XG rfl underlying4 rfl rfl) ?_;refine Jn (Jt (Ee rfl (fun k42=>?_) (fun k42=>?_)));have h42:decide (y.ty=3)=(decide (z.ty=3)):=by simpa using k42
 refine Jz 12 ?_;refine Bp ⟨⟨n+1,j+1,rfl,rfl,rfl,om,om,(by rw[hS,aCk hy h42];omega)⟩,sb⟩;have h42:¬decide (y.ty=3)=(decide (z.ty=3)):=by simpa using k42
 refine Jz 8 ?_;refine Bp ⟨⟨n,j+1,rfl,rfl,rfl,om,om,(by rw[hS,WC hy h42])⟩,sb⟩;refine Jz 15 ?_;refine Ci (Cg (Rk (.inl rfl) results12 rfl rfl rfl ?_));have hr:vkN (decide (z.ty=3)) (x.vars.take p)=n:=by rw[hS,aPz om];rfl
 rw[hr];exact⟨rfl,rfl⟩
theorem WG(fb:Nat)(X:FB)(G:List Ad)(hG:Lax G)(a b:Int)(hbad:a<0∨(X.F.comps.length:Int)≤a∨b<0∨(X.F.comps.length:Int)≤b):
    Dz 24 [pv fb,iv a,iv b] [all (flk fb X G)] (fun v Γ'=>v=iv 0∧Γ'=[]):=by
 refine Ba func24 ntmps24 fun w0=>?_;refine Jz 8 ?_;refine Jqf (Sb fb X G hG) (by show owns (flk fb X G)++[]=[];rw[(Er hG).owns];rfl) (jS (lS 0 rfl) (jP _)) ?_;rintro _ _ ⟨rfl,rfl⟩;refine⟨rfl,?_⟩;refine Jz 8 ?_;refine JgP ?_ ?_<;>intro g14;refine Jz 23 ?_;refine Cg (ak results24 ?_);exact⟨rfl,rfl⟩;refine Jz 4 ?_;refine JgP ?_ ?_<;>intro g19;refine Jz 18 ?_;refine Cg (ak results24 ?_);exact⟨rfl,rfl⟩;refine Jz 3 ?_;refine JgP ?_ ?_<;>intro g23;refine Jz 14 ?_;refine Cg (ak results24 ?_);exact⟨rfl,rfl⟩;refine Jz 6 ?_;refine aa rfl ?_ ?_<;>intro k27;refine Jz 7 ?_;refine Cg (ak results24 ?_);exact⟨rfl,rfl⟩;exact aOx hbad om
theorem WH(fb:Nat)(X:FB)(G:List Ad)(hG:Lax G)(a b:Int)(ha:0≤a∧a<X.F.comps.length)(hb:0≤b∧b<X.F.comps.length)(hll:X.F.links.length≤1000):
    Dz 24 [pv fb,iv a,iv b] [all (flk fb X G)] (fun v Γ'=>v=iv (Ya (cmI X.F a).name (cmI X.F b).name X.F.links)∧Γ'=[]):=by
 refine Ba func24 ntmps24 fun w0=>?_;refine Jz 8 ?_;refine Jqf (Sb fb X G hG) (by show owns (flk fb X G)++[]=[];rw[(Er hG).owns];rfl) (jS (lS 0 rfl) (jP _)) ?_;rintro _ _ ⟨rfl,rfl⟩;refine⟨rfl,?_⟩;refine Jz 8 ?_;refine JgP ?_ ?_<;>intro g14
 first|exact aOx c14 om|exact aOx k14 om|exact aOx g14 om
 refine Jz 4 ?_;refine JgP ?_ ?_<;>intro g19
 first|exact aOx c19 om|exact aOx k19 om|exact aOx g19 om
 refine Jz 3 ?_;refine JgP ?_ ?_<;>intro g23
 first|exact aOx c23 om|exact aOx k23 om|exact aOx g23 om
 refine Jz 6 ?_;refine aa rfl ?_ ?_<;>intro k27
 first|exact aOx c27 om|exact aOx k27 om|exact aOx g27 om
 refine Jz 4 ?_;refine bv 0 rfl (ro (some ⟨fb,0,none⟩) [.string X.F.name,vs X.F.Af X.F.flags X.F.qf,vs X.F.Al X.F.links X.F.ql,vs X.F.Ac X.F.comps X.F.qc, .string X.src,ub (X.id 0),ub (X.id 1),ub (X.id 2),ub (X.id 3),ub (X.id 4),ub (X.id 5),ub (X.id 6),ub (X.id 7),ub (X.id 8),ub (X.id 9),ub (X.id 10),ub (X.id 11),ub (X.id 12),ub (X.id 13),ub (X.id 14),ub (X.id 15),ub (X.id 16),ub (X.id 17),ub (X.id 18),ub (X.id 19),ub (X.id 20),ub (X.id 21),ub (X.id 22),ub (X.id 23),ub (X.id 24),ub (X.id 25),ub (X.id 26),ub (X.id 27),ub (X.id 28),ub (X.id 29),ub (X.id 30),ub (X.id 31), .pointer (some ⟨X.pb,0,none⟩)]) rfl (vR) (bv 1 rfl (ros Jj X.F.Al X.F.links) rfl (iE _ (Ml (k:=eX))) (Jz 5 ?_));refine Jr (Cq (i:=1) rfl rfl c71 rfl (Ev (A:=some ⟨fb,0,none⟩) (o:=2) (k:=1) rfl)) ?_;refine Jz 5 ?_;refine Bw (fun s g mz ρ Γ=>∃(j:Nat),ρ=[s 0,s 1,s 2,s 32,s 33,(34,nv j)]∧Γ=[g 2,g 0]∧mz=X.F.links.length-j∧(j≤X.F.links.length)∧(Ya (cmI X.F a).name (cmI X.F b).name X.F.links=Ya (cmI X.F a).name (cmI X.F b).name (X.F.links.drop j))) ⟨⟨0,rfl,rfl,rfl,om,rfl⟩,sb⟩ ?_;rintro mz _ _ ⟨j,rfl,rfl,rfl,hj,hS⟩;refine Jz 6 ?_;refine aa rfl ?_ ?_<;>intro k35;obtain⟨y,hy⟩:=ai X.F.links j om;refine Jz 8 ?_;refine ae fun b9=>?_;refine Jz 4 ?_;refine Jfw [] [0,2,3,304,101,5,6,7,9,10,311,108,12,13] (jP _) ?_;refine Jz 3 ?_;refine Oo rfl rfl rfl rfl .fc ((fQ fb X G hG a).mono fun _ _ h=>h.1) (by show owns (flk fb X G)++[]=[];rw[(Er hG).owns];rfl) (jS (lS 1 rfl) (jP _)) ?_;refine Jz 1 ?_;refine df rfl (Jb rfl rfl rfl) ?_;refine Wq rfl rfl rfl rfl (dn rfl rfl) (fun g44=>?_) (fun g44=>?_);refine Jz 3 ?_;refine Oo rfl rfl rfl rfl .fc ((fQ fb X G hG b).mono fun _ _ h=>h.1) (by show owns (flk fb X G)++[]=[];rw[(Er hG).owns];rfl) (jS (lS 1 rfl) (jP _)) ?_;refine Jz 1 ?_;refine df rfl (Jb rfl rfl rfl) ?_;refine Jz 3 ?_;refine aa rfl ?_ ?_<;>intro k51;refine Jz 13 ?_;refine Cb (Ci (Cg (ak results24 ?_)));have hr:Ya (cmI X.F a).name (cmI X.F b).name X.F.links=y.lat:=by rw[hS];exact AL hy (by simp_all) (by simp_all)
 rw[hr];exact⟨rfl,rfl⟩;refine Jz 8 ?_;refine Bp ⟨⟨j+1,rfl,rfl,rfl,om,(by rw[hS,Yy hy (fun h=>by simp_all)])⟩,sb⟩;refine Jz 18 ?_;refine Bp ⟨⟨j+1,rfl,rfl,rfl,om,(by rw[hS,Yy hy (fun h=>by simp_all)])⟩,sb⟩;refine Jz 11 ?_;refine Ci (Cg (ak results24 ?_));have hr:Ya (cmI X.F a).name (cmI X.F b).name X.F.links=1:=by rw[hS,aPz om];rfl
 rw[hr];exact⟨rfl,rfl⟩
def AP(s:yB):List PH→oP Nat
 |[]=>none
 |h::r=>if h.name=s then some h.ps.length else AP s r
def KG(s:yB):List (List PH)→oP Nat
 |[]=>none
 |v::r=>match AP s v with|some n=>some n|none=>KG s r
theorem rZ(s:yB):∀l:List Hd,pF s l=AP s (l.map Hd.pure)
 |[]=>rfl
 | h::r=>by
   show(if h.name=s then some h.ps.length else pF s r)=(if h.name=s then some h.ps.length else AP s (r.map Hd.pure));rw[rZ s r]
theorem sD(s:yB):∀l:List Vs,dS s l=KG s (l.map Vs.pure)
 |[]=>rfl
 | v::r=>by
   show(match pF s v.l with|some n=>some n|none=>dS s r)=(match AP s (v.l.map Hd.pure)with|some n=>some n|none=>KG s (r.map Vs.pure));rw[sD s r,rZ]
def PcZ:PC:=⟨nE,[],[]⟩
def pcI(F:PF)(c:Int):PC:=(atI F.comps c).getD PcZ
theorem oC(F:Fl)(c:Int):(cmI F c).pure=pcI F.pure c:=by
 rcases Ng F.comps c with h|⟨k,x,rfl,h⟩
 ·rw[dR h];unfold pcI;rw[Xz (by show c<0∨((F.comps.map Cm.pure).length:Int)≤c;rw[aNv];exact h)];rfl
 ·rw[Vo h];unfold pcI;rw[dQ,show F.pure.comps[k]?=some x.pure by show(F.comps.map Cm.pure)[k]?=_;rw[aOf,h];rfl];rfl
theorem dU(F:Fl)(c:Int):(cmI F c).name=(pcI F.pure c).name:=by rw[←oC];rfl
theorem AQ(F:Fl)(c:Int):(cmI F c).vars=(pcI F.pure c).vars:=by rw[←oC];rfl
theorem AR(F:Fl)(c:Int):(cmI F c).vers.map Vs.pure=(pcI F.pure c).vers:=by rw[←oC];rfl
def fV(F:PF)(ps:List PP)(c v h:Int):oP Nat:=
 if v<1∨((pcI F c).vers.length:Int)<v then none else match atI (hnI ps c) h with
  |some s=>KG s ((pcI F c).vers.take v.toNat)
  |none=>none
def iF(F:PF)(c p:Int):oP (Nat×Bool):=match atI (pcI F c).vars p with
 |some x=>some (vkN (decide (x.ty=3)) ((pcI F c).vars.take p.toNat),decide (x.ty=3))
 |none=>none
def iQ(F:PF)(a b:Int):Int:=if a<0∨(F.comps.length:Int)≤a∨b<0∨(F.comps.length:Int)≤b then 0 else Ya (pcI F a).name (pcI F b).name F.links
structure PFB(F:PF):Prop where
 links:F.links.length≤1000
 comps:∀c∈F.comps,c.vars.length≤1000∧c.vers.length≤1000∧∀v∈c.vers,v.length≤1000
theorem PFB.at_{F:Fl}(h:PFB F.pure){k:Nat}{x:Cm}(hx:F.comps[k]?=some x):x.vars.length≤1000∧x.vers.length≤1000∧∀y∈x.vers,y.l.length≤1000:=by
 obtain⟨h1,h2,h3⟩:=h.comps x.pure (aOm.2 ⟨x,sN hx,rfl⟩);refine⟨h1,by have h4:(x.vers.map Vs.pure).length≤1000:=h2;rwa[aNv]at h4,fun y hy=>?_⟩;have h4:(y.l.map Hd.pure).length≤1000:=h3 y.pure (aOm.2 ⟨y,hy,rfl⟩);rwa[aNv]at h4
theorem aCl(fb:Nat)(X:FB)(G:List Ad)(A:OA)(q:Nat)(ps:List PP)(hP:PgX X G A q ps)(hC:X.F.Cap)(hB:PFB X.F.pure)(c v h:Int):Dz 17 [pv fb,iv c,iv v,iv h] [all (flk fb X G)] (fun r Γ'=>r= .tuple #[nv ((fV X.F.pure ps c v h).getD 0), .bool (fV X.F.pure ps c v h).isSome]∧Γ'=[]):=by
 have hvl:(cmI X.F c).vers.length=(pcI X.F.pure c).vers.length:=by rw[←AR,aNv]
 by_cases hv:v<1∨((pcI X.F.pure c).vers.length:Int)<v
 · rw[show fV X.F.pure ps c v h=none by unfold fV;rw[aOn hv]]
   exact AO fb X G A q ps hP c v h om
 rcases Ng (hnI ps c) h with hh|⟨m,nm,rfl,hm⟩
 · rw[show fV X.F.pure ps c v h=none by unfold fV;rw[aNy hv,Xz hh]]
   exact AO fb X G A q ps hP c v h om
 rcases Ng X.F.comps c with hc|⟨k,x,rfl,hx⟩
 · rw[←hvl,dR hc]at hv
   exact(hv (by show v<1∨((0:Nat):Int)<v;omega)).elim
 · obtain⟨n,rfl⟩:∃n:Nat,v=(n:Int):=⟨v.toNat,by omega⟩
   rw[Vo hx]at hvl;obtain⟨b1,b2,b3⟩:=hB.at_ hx;have e:fV X.F.pure ps (k:Int) (n:Int) (m:Int)=dS nm (x.vers.take n):=by
    unfold fV;rw[aNy hv,dQ,hm,sD,aQu,←AR,Vo hx];rfl
   rw[e];exact WE fb X G A q ps hP hC k x hx n m om om nm hm b2 b3
theorem WI(fb:Nat)(X:FB)(G:List Ad)(hG:Lax G)(hC:X.F.Cap)(hB:PFB X.F.pure)(c p:Int):Dz 12 [pv fb,iv c,iv p] [all (flk fb X G)] (fun r Γ'=>r= .tuple #[nv (((iF X.F.pure c p).map Prod.fst).getD 0), .bool (((iF X.F.pure c p).map Prod.snd).getD false), .bool (iF X.F.pure c p).isSome]∧Γ'=[]):=by
 rcases Ng (cmI X.F c).vars p with hp|⟨n,z,rfl,hz⟩
 · rw[show iF X.F.pure c p=none by unfold iF;rw[←AQ,Xz hp]]
   exact PL fb X G hG c p hp
 rcases Ng X.F.comps c with hc|⟨k,x,rfl,hx⟩
 ·rw[dR hc]at hz;cases hz
 · have e:iF X.F.pure (k:Int) (n:Int)=some (vkN (decide (z.ty=3)) (x.vars.take n),decide (z.ty=3)):=by
     unfold iF;rw[←AQ,dQ,hz,Vo hx];rfl
   rw[Vo hx]at hz;rw[e];exact PM fb X G hG hC k x hx n z hz (hB.at_ hx).1
theorem KH(fb:Nat)(X:FB)(G:List Ad)(hG:Lax G)(hB:PFB X.F.pure)(a b:Int):Dz 24 [pv fb,iv a,iv b] [all (flk fb X G)] (fun r Γ'=>r=iv (iQ X.F.pure a b)∧Γ'=[]):=by
 have hl:X.F.pure.comps.length=X.F.comps.length:=aNv ..;by_cases h:a<0∨(X.F.comps.length:Int)≤a∨b<0∨(X.F.comps.length:Int)≤b
 · rw[show iQ X.F.pure a b=0 by unfold iQ;rw[aOn om]]
   exact WG fb X G hG a b h
 · rw[show iQ X.F.pure a b=Ya (cmI X.F a).name (cmI X.F b).name X.F.links by unfold iQ;rw[aNy om,dU,dU];rfl]
   exact WH fb X G hG a b om om hB.links
end Go.Proofs.YtihgdnjkofpgiaaGreatDoor

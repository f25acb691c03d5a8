/- Own text. -/
import Derived.Test.YtlihklladkagpaaGreatDoorWd
import Derived.Test.YtlihklladkagpaaGreatDoorVe
set_option maxHeartbeats 8000000
set_option maxRecDepth 100000
set_option linter.unusedVariables false
set_option linter.unusedSimpArgs false
namespace Go.Proofs.YtlihklladkagpaaGreatDoor
open Go.Proofs.Tryz
open Go.RowKit Go.Flow Go.Mem Go.Sep Go.In
def kHN(h:HN):List Ai:=[ros aMb h.A h.l]
def vF(F:Fl)(ps:List PP):Prop:=∀(k:Nat) (c:Cm) (p:PP),F.comps[k]?=some c→ps[k]?=some p→NS F c p
theorem vF.push{F:Fl}{ps:List PP}{c:Cm}{p:PP}{k:Nat}(h:vF F ps)(hl:ps.length=k)(hc:F.comps[k]?=some c)(hp:NS F c p):vF F (ps++[p]):=fun i c' p' h1 h2=>by
 by_cases e:i<k
 · rw[aFj om]at h2
   exact h i c' p' h1 h2
 · have h3:=(aEc.1 h2).1
   rw[lap]at h3
   have h3:i<ps.length+1:=h3
   obtain rfl:i=k:=om
   rw[aFw om,hl,aGj]at h2
   rw[hc]at h1
   obtain rfl:=aEn h1
   obtain rfl:p=p':=by simpa using h2
   exact hp
structure yO(F:Fl)(ps:List PP):Prop where
 len:ps.length=F.comps.length
 inv:vF F ps
def pgk(b:Nat)(A:OA)(q:Nat)(ps:List PP):List Ai:=ro (some ⟨b,0,none⟩) [vs A ps q]::ros Xx A ps::ps.flatMap PP.kids
theorem PP.lax(p:PP):Lax p.kids:=Lax.cons rfl (Lax.cons rfl (Lax.cons rfl (Lax.app (Hm fun v _=>v.lax) (Hm fun _ _=>fM))))
theorem TR(b:Nat)(A:OA)(q:Nat)(ps:List PP):Lax (pgk b A q ps):=Lax.cons rfl (Lax.cons rfl (Hm fun p _=>p.lax))
section
variable{b:Nat}{A:OA}{q:Nat}{ps:List PP}{p:PP}{k:Nat}{v:PV}{f:PB}{n:Nat}
theorem NT:ro (some ⟨b,0,none⟩) [vs A ps q]∈pgk b A q ps:=aEd ..
theorem NU:ros Xx A ps∈pgk b A q ps:=aEb _ (aEd ..)
theorem kU(h:ps[k]?=some p):∀z∈p.kids,z∈pgk b A q ps:=fun z hz=>aEb _ (aEb _ (aEy.2 ⟨p,mog h,hz⟩))
theorem YJ:ros kN p.Au p.us∈p.kids:=aEb _ (aEd ..)
theorem NV:ros dX p.Af p.fs∈p.kids:=aEb _ (aEb _ (aEd ..))
theorem NW(h:p.us[n]?=some v):∀z∈v.kids,z∈p.kids:=fun z hz=>aEb _ (aEb _ (aEb _ (aGo _ (aEy.2 ⟨v,mog h,hz⟩))))
theorem NY(h:p.fs[n]?=some f):ros Sd f.A f.l∈p.kids:=aEb _ (aEb _ (aEb _ (aGf _ (aEy.2 ⟨f,mog h,aEd ..⟩))))
theorem YK:ros Sc v.A v.l∈v.kids:=aEd ..
theorem YL{u:PU}{i:Nat}(h:v.l[i]?=some u):ros Ins.cells u.A u.l∈v.kids:=aEb _ (aEy.2 ⟨u,mog h,aEd ..⟩)
end
theorem YM{F:Fl}{hs:List HN}(h:hs.map HN.l=F.comps.map fun c=>hnames (c.vers.map Vs.pure)){ci:Nat}{c:Cm}(hc:F.comps[ci]?=some c):∃hn,hs[ci]?=some hn∧hn.l=hnames (c.vers.map Vs.pure):=by
 have h1:(hs.map HN.l)[ci]?=some (hnames (c.vers.map Vs.pure)):=by rw[h,aEp,hc];rfl
 rw[aEp]at h1
 exact aFg.1 h1
theorem VT{F:Fl}(hF:Ku F.pure){hs:List HN}(h:hs.map HN.l=F.comps.map fun c=>hnames (c.vers.map Vs.pure)):∀x∈hs,x.l.length≤12:=fun x hx=>by
 have h1:x.l∈hs.map HN.l:=aEv.2 ⟨x,hx,rfl⟩
 rw[h]at h1
 obtain⟨c,hc,e⟩:=aEv.1 h1
 obtain⟨i,hi⟩:=aFt hc
 obtain⟨nn,hW⟩:=cmW hF hi
 rw[←e,hW.hn,Dq];have:=hW.n3;omega
theorem yP(F:Fl)(hF:Ku F.pure)(hX:Ol F)(hCap:F.Cap):
    Dz 26 [.agg (cF F []).toArray] [all (F.kids eX),glc,p10c,Kn] (fun v Γ'=>∃(b:Nat) (A:OA) (q:Nat) (ps:List PP),v= .tuple #[pv b,iv 0]∧Γ'=[all (pgk b A q ps)]∧yO F ps):=by
 have hFc:=hX.comps
 refine Am func26 ntmps26 fun w0=>?_
 refine Js (To.g (Jbo fun b1=>?_))
 refine Jz 8 ?_
 refine Jqf (nA F hX) (by show owns (F.kids eX)++(owns gl++[])=[];rw[(Fl.lax eX F).owns];rfl) (ocs (oca 1 rfl) (ocs (oca 2 rfl) (ocn _))) ?_
 rintro _ _ ⟨rfl,rfl⟩
 refine⟨rfl,?_⟩
 refine Jz 16 ?_
 refine Jqf (GQ F hX hCap (tyF hF)) (by show owns (F.kids eX)++(owns gl++(p10c.owns++[]))=[];rw[(Fl.lax eX F).owns];rfl) (ocs (oca 1 rfl) (ocs (oca 2 rfl) (ocs (oca 3 rfl) (ocn _)))) ?_
 rintro _ _ ⟨rfl,rfl⟩
 refine⟨rfl,?_⟩
 refine Jz 3 ?_
 refine Jal fun b5=>?_
 refine Jz 16 ?_
 refine Jr (.bd (cF F [nz,iv 0,nz,nz,nz,nz,nz])) ?_
 refine Jbo fun b27=>?_
 refine Jz 5 ?_
 refine To.one 3 rfl (ros Jl F.Ac F.comps) rfl (Jc (k:=eX)) (Jz 8 ?_)
 refine Cz (enc:=Va) (e:=37) (size:=1) (Ko (Cw (fun s g mz ρ Γ=>∃(Ah:OA) (qh:Nat) (hs:List HN) (j:Nat),ρ=[s 1,s 3,s 7,s 29,s 30,(31,nv j)]∧Γ=[box b27 (cF F [vs Ah hs qh,iv 0,nz,nz,nz,nz,nz]) 171,g 5,g 6,Kn,g 2,rows Va 37 1 Ah qh hs,all (hs.flatMap kHN)]∧mz=F.comps.length-j∧(j≤F.comps.length)∧(hs.map HN.l=(F.comps.take j).map fun c=>hnames (c.vers.map Vs.pure))) ⟨⟨none,0,([]:List HN),0,rfl,rfl,rfl,om,rfl⟩,sb⟩ ?_))
 rintro mz _ _ ⟨Ah,qh,hs,j,rfl,rfl,rfl,hj,hhs⟩
 have hhl:=congrArg List.length hhs
 rw[aEg,aEg,aEe]at hhl
 refine Jz 6 ?_
 refine Jcp rfl ?_ ?_<;>intro k32
 obtain⟨x,hx⟩:=exg F.comps j om
 have hxg:=hX.comp x (mog hx)
 refine Jz 8 ?_
 refine Jal fun b9=>?_
 refine Jz 3 ?_
 refine Db 3 rfl (x.kids eX) (Cm.lax eX x) (Fj hx) (Pp [] [⟨0,[],0⟩,⟨1,[],0⟩,⟨2,[],0⟩,⟨3,[],0⟩,⟨5,[],1⟩,⟨6,[],4⟩,⟨4,[],1⟩,⟨7,[6],2⟩,⟨8,[6,7],5⟩,⟨9,[],0⟩,⟨10,[],0⟩,⟨11,[],5⟩] mixed.h (by kernel_rfl) (ocn _) (Jz 5 ?_))
 refine Gj rfl rfl rfl rfl rfl .fc (GK x hxg.vers2 (fun v hv=>(hxg.ver v hv).1)) (by show owns (x.kids eX)++[]=[];rw[(Cm.lax eX x).owns];rfl) (ocs (oca 0 rfl) (ocn _)) ?_
 rintro _ _ ⟨An,qn,rfl,rfl⟩
 refine⟨rfl,?_⟩
 refine Jz 1 ?_
 refine Es [vs An (hnames (x.vers.map Vs.pure)) qn] fun b42=>?_
 refine Fw.ge rfl rfl rfl rfl (Bg NJ (i:=9) (j:=0) (el:=(⟨An,qn,hnames (x.vers.map Vs.pure)⟩:HN)) rfl aDc rfl rfl rfl rfl rfl om om) ?_
 rintro _ _ ⟨A43,q43,rfl,rfl⟩
 refine⟨ocn _,?_⟩
 refine Jz 2 ?_
 refine Fw.up rfl rfl rfl (Up.store (i:=4) rfl rfl rfl aDb rfl rfl (bt1 rfl)) (ocn _) ?_
 refine Jz 3 ?_
 refine Ux (Jj (Cq (aF (Xv (f:=kHN) hs (⟨An,qn,hnames (x.vers.map Vs.pure)⟩:HN) (Jz 5 ?_)))))
 refine Cg ⟨⟨A43,q43,(hs++[(⟨An,qn,hnames (x.vers.map Vs.pure)⟩:HN)]),j+1,rfl,rfl,rfl,om,(by rw[aEq,Cf hx,aEq,hhs];rfl)⟩,sb⟩
 refine Jz 7 ?_
 refine Jr (.bd [nz]) ?_
 refine Jbo fun b48=>?_
 refine Jz 13 ?_
 have hhE:hs.map HN.l=F.comps.map fun c=>hnames (c.vers.map Vs.pure):=by rw[hhs,aEm om]
 refine Cj (Ej (Cj (Cq (Le (Jj (Le (Dn (Le (Dn ?_)))))))))
 rw[show(ros Va Ah hs::ros Jl F.Ac F.comps::hs.flatMap kHN)=dZ F Ah hs from by unfold dZ;rw[aP];rfl]
 refine Cz (enc:=Xx) (e:=183) (size:=3) (Ko (Cw (fun s g mz ρ Γ=>∃(z:Stl) (Ap:OA) (qp:Nat) (ps:List PP) (k:Nat),ρ=[s 1,s 3,s 7,s 10,s 51,(52,nv k)]∧Γ=[box b27 (cF F [vs Ah hs qh,nv z.own, .slice z.A1 z.n1 z.q1, .slice z.A2 z.n2 z.q2, .slice z.A3 z.n3 z.q3, .slice z.A4 z.n4 z.q4, .slice z.A5 z.n5 z.q5]) 171,g 5,g 6,Kn,g 2,box b48 [vs Ap ps qp] 179,rows Xx 183 3 Ap qp ps,all (ps.flatMap PP.kids)]∧mz=F.comps.length-k∧(k≤F.comps.length)∧(ps.length=k)∧(vF F ps)) ⟨⟨(⟨0,none,0,0,none,0,0,none,0,0,none,0,0,none,0,0⟩:Stl),none,0,([]:List PP),0,rfl,rfl,rfl,om,rfl,(fun k c p h1 h2=>by simp at h2)⟩,sb⟩ ?_))
 rintro mz _ _ ⟨z,Ap,qp,ps,k,rfl,rfl,rfl,hk,hpl,hps⟩
 refine Jz 6 ?_
 refine Jcp rfl ?_ ?_<;>intro k53
 obtain⟨c,hc⟩:=exg F.comps k om
 have hcg:=hX.comp c (mog hc)
 obtain⟨nn,hW⟩:=cmW hF hc
 obtain⟨hn,hhn,hnl⟩:=YM hhE hc
 refine Jz 10 ?_
 refine Px 3 rfl rfl (Db 3 rfl (F.kids eX) (Fl.lax eX F) (fun z hz=>hz) (Db 6 rfl (dZ F Ah hs) (nP F Ah hs) (fun z hz=>hz) (Ki (tel []) mixed.h (Hy 4 7 rfl (by kernel_rfl) ?_ ?_))))
 refine Lc [] [0,1,2,3,5,6,507,104,208,9509,10,11,512] (ocn _) ?_
 refine Jz 6 ?_
 refine Da [3,0,0,0] (vE F hF hX k c hc hcg ((tyF hF).comp k c hc) nn hW Ah qh hs hn hhn (hnl.trans hW.hn) hhE (VT hF hhE) b27 z) ?_
 rintro _ _ ⟨p2,z2,rfl,rfl,hp2⟩
 refine⟨ocn _,?_⟩
 refine Jz 1 ?_
 refine Es [vs p2.An p2.names p2.qn,vs p2.Au p2.us p2.qu,vs p2.Af p2.fs p2.qf] fun b63=>?_
 refine Fw.ge rfl rfl rfl rfl (Bg vB (i:=8) (j:=0) (el:=p2) rfl aAj rfl rfl rfl rfl rfl om om) ?_
 rintro _ _ ⟨A64,q64,rfl,rfl⟩
 refine⟨ocn _,?_⟩
 refine Jz 2 ?_
 refine Fw.up rfl rfl rfl (Up.store (i:=7) rfl rfl rfl sH rfl rfl (bta rfl)) (ocn _) ?_
 refine Jz 3 ?_
 refine DX (Ic (Xv (f:=PP.kids) ps p2 (Jz 5 ?_)))
 refine Cg ⟨⟨z2,A64,q64,(ps++[p2]),k+1,rfl,rfl,rfl,om,(by rw[lap,hpl];rfl),(hps.push hpl hc hp2)⟩,sb⟩
 refine Lc [] [0,1,2,3,5,6,104,507,208,9509,10,11,512] (ocn _) ?_
 refine Jz 7 ?_
 refine Da [3,0,0,0] (vE F hF hX k c hc hcg ((tyF hF).comp k c hc) nn hW Ah qh hs hn hhn (hnl.trans hW.hn) hhE (VT hF hhE) b27 z) ?_
 rintro _ _ ⟨p2,z2,rfl,rfl,hp2⟩
 refine⟨ocn _,?_⟩
 refine Es [vs p2.An p2.names p2.qn,vs p2.Au p2.us p2.qu,vs p2.Af p2.fs p2.qf] fun b63=>?_
 refine Fw.ge rfl rfl rfl rfl (Bg vB (i:=8) (j:=0) (el:=p2) rfl aAj rfl rfl rfl rfl rfl om om) ?_
 rintro _ _ ⟨A64,q64,rfl,rfl⟩
 refine⟨ocn _,?_⟩
 refine Jz 2 ?_
 refine Fw.up rfl rfl rfl (Up.store (i:=7) rfl rfl rfl sH rfl rfl (bta rfl)) (ocn _) ?_
 refine Jz 3 ?_
 refine DX (Ic (Xv (f:=PP.kids) ps p2 (Jz 5 ?_)))
 refine Cg ⟨⟨z2,A64,q64,(ps++[p2]),k+1,rfl,rfl,rfl,om,(by rw[lap,hpl];rfl),(hps.push hpl hc hp2)⟩,sb⟩
 refine Jz 13 ?_
 refine Cj (Cj (Cq (Dn (Ej (Zh (Dn (Iu (Er (Dl (Cu (Df (Gc (.inl rfl) results26 rfl rfl ?_))))))))))))
 exact⟨b48,Ap,qp,ps,rfl,rfl,⟨by omega,hps⟩⟩
theorem NZ(b:Nat)(A:OA)(q:Nat)(ps:List PP)(k:Nat)(p:PP)(hp:ps[k]?=some p)(hps:ps.length≤12)(n:Nat)(v:PV)(hv:p.us[n]?=some v)(f:PB)(hf:p.fs[n]?=some f)(h:Nat)(hh:h<p.names.length)(u:PU)(hu:v.l[h]?=some u)(ht:f.l[h]?=some true)(hul:u.l.length≤1000000)(hun:p.us.length≤1000):
    Dz 28 [pv b,nv k,nv ((n+1)),nv h] [all (pgk b A q ps)] (fun v Γ'=>∃(B:OA) (r:Nat),v= .tuple #[.agg #[nv u.np,iv u.st,vs B u.l r], .bool true]∧Γ'=[rows Ins.cells 116 4 B r u.l]):=by
 have hkp:k<ps.length:=(aEc.1 hp).1
 have hnu:n<p.us.length:=(aEc.1 hv).1
 refine Am func28 ntmps28 fun w0=>?_
 refine Js (To.g (Jal fun b8=>?_))
 refine Jz 5 ?_
 refine To.one 1 rfl (ro (some ⟨b,0,none⟩) [vs A ps q]) rfl (NT) (To.one 2 rfl (ros Xx A ps) rfl (NU) (Jz 2 ?_))
 refine Jr (bF rfl underlying101 rfl rfl) ?_
 refine Jz 4 ?_
 refine JgP ?_ ?_<;>intro g18
 exact absurd g18 om
 refine Jz 4 ?_
 refine Jr (Ck (i:=1) rfl rfl sH rfl (Iq (A:=some ⟨b,0,none⟩) (o:=0) (k:=1) rfl)) ?_
 refine Jz 5 ?_
 refine Jcp rfl ?_ ?_<;>intro k26
 exact absurd k26 om
 refine Jz 7 ?_
 refine Jr (Ck (i:=1) rfl rfl sH rfl (Iq (A:=some ⟨b,0,none⟩) (o:=0) (k:=1) rfl)) ?_
 refine Jz 3 ?_
 refine Jal fun b10=>?_
 refine Jz 5 ?_
 refine To.one 4 rfl (ros dX p.Af p.fs) rfl (kU hp _ NV) (To.one 5 rfl (ros Sd f.A f.l) rfl (kU hp _ (NY hf)) (Jz 3 ?_))
 refine JgP ?_ ?_<;>intro g37
 exact absurd g37 om
 refine Jz 6 ?_
 refine JgP ?_ ?_<;>intro g44
 exact absurd g44 om
 refine Jz 3 ?_
 refine JgP ?_ ?_<;>intro g48
 exact absurd g48 om
 refine Jz 6 ?_
 refine JgP ?_ ?_<;>intro g55
 exact absurd g55 om
 refine Jz 3 ?_
 refine Jr (Cr (v':=nv n) (congrArg iv om) (Gi rfl rfl rfl om)) ?_
 refine Jz 13 ?_
 refine To.one 6 rfl (ros kN p.Au p.us) rfl (kU hp _ YJ) (To.one 7 rfl (ros Sc v.A v.l) rfl (kU hp _ (NW hv _ YK)) (To.one 8 rfl (ros Ins.cells u.A u.l) rfl (kU hp _ (NW hv _ (YL hu))) (Jz 4 ?_)))
 refine Jr (Cr (v':=nv n) (congrArg iv om) (Gi rfl rfl rfl om)) ?_
 refine Jz 5 ?_
 refine Jal fun b11=>?_
 refine Jz 2 ?_
 refine Ot [(0,pv b),(1,nv k),(2,nv ((n+1))),(3,nv h),(8,pv b8),(9, .bool false),(26, .bool (decide (((ps.length:Nat):Int)≤((k:Nat):Int)))),(10,pv b10),(66, .bool false),(11,pv b11)] sb (Jz 5 ?_)
 refine Jqf (GJ u.A u.q u.l hul) rfl (ocs (oca 1 rfl) (ocn _)) ?_
 rintro _ _ ⟨Bc,pc,rfl,rfl⟩
 refine⟨rfl,?_⟩
 refine Jz 12 ?_
 refine Lp [0] rfl (.inl rfl) results28 rfl (i:=10) rfl r43 rfl rfl ?_
 exact⟨_,_,rfl,rfl⟩
theorem GR(b:Nat)(A:OA)(q:Nat)(ps:List PP)(k:Nat)(p:PP)(hp:ps[k]?=some p)(hps:ps.length≤12)(n:Nat)(v:PV)(hv:p.us[n]?=some v)(f:PB)(hf:p.fs[n]?=some f)(h:Nat)(hh:h<p.names.length)(u:PU)(hu:v.l[h]?=some u)(ht:f.l[h]?=some false)(hul:u.l.length≤1000000)(hun:p.us.length≤1000):
    Dz 28 [pv b,nv k,nv ((n+1)),nv h] [all (pgk b A q ps)] (fun v Γ'=>v= .tuple #[.agg #[iv 0,iv 0,nz], .bool false]∧Γ'=[]):=by
 have hkp:k<ps.length:=(aEc.1 hp).1
 have hnu:n<p.us.length:=(aEc.1 hv).1
 refine Am func28 ntmps28 fun w0=>?_
 refine Js (To.g (Jal fun b8=>?_))
 refine Jz 5 ?_
 refine To.one 1 rfl (ro (some ⟨b,0,none⟩) [vs A ps q]) rfl (NT) (To.one 2 rfl (ros Xx A ps) rfl (NU) (Jz 2 ?_))
 refine Jr (bF rfl underlying101 rfl rfl) ?_
 refine Jz 4 ?_
 refine JgP ?_ ?_<;>intro g18
 exact absurd g18 om
 refine Jz 4 ?_
 refine Jr (Ck (i:=1) rfl rfl sH rfl (Iq (A:=some ⟨b,0,none⟩) (o:=0) (k:=1) rfl)) ?_
 refine Jz 5 ?_
 refine Jcp rfl ?_ ?_<;>intro k26
 exact absurd k26 om
 refine Jz 7 ?_
 refine Jr (Ck (i:=1) rfl rfl sH rfl (Iq (A:=some ⟨b,0,none⟩) (o:=0) (k:=1) rfl)) ?_
 refine Jz 3 ?_
 refine Jal fun b10=>?_
 refine Jz 5 ?_
 refine To.one 4 rfl (ros dX p.Af p.fs) rfl (kU hp _ NV) (To.one 5 rfl (ros Sd f.A f.l) rfl (kU hp _ (NY hf)) (Jz 3 ?_))
 refine JgP ?_ ?_<;>intro g37
 exact absurd g37 om
 refine Jz 6 ?_
 refine JgP ?_ ?_<;>intro g44
 exact absurd g44 om
 refine Jz 3 ?_
 refine JgP ?_ ?_<;>intro g48
 exact absurd g48 om
 refine Jz 6 ?_
 refine JgP ?_ ?_<;>intro g55
 exact absurd g55 om
 refine Jz 3 ?_
 refine Jr (Cr (v':=nv n) (congrArg iv om) (Gi rfl rfl rfl om)) ?_
 refine Jz 12 ?_
 refine Jr (.bd [iv 0,iv 0,nz]) ?_
 refine Jz 6 ?_
 refine Lp [] rfl (.inl rfl) results28 rfl (i:=5) rfl r43 rfl rfl ?_
 exact⟨rfl,rfl⟩
theorem GU(b:Nat)(A:OA)(q:Nat)(ps:List PP)(k:Nat)(p:PP)(hp:ps[k]?=some p)(hps:ps.length≤12)(n h:Nat)(hbad:n=0∨p.us.length<n∨p.names.length≤h):
    Dz 28 [pv b,nv k,nv n,nv h] [all (pgk b A q ps)] (fun v Γ'=>v= .tuple #[.agg #[iv 0,iv 0,nz], .bool false]∧Γ'=[]):=by
 have hkp:k<ps.length:=(aEc.1 hp).1
 refine Am func28 ntmps28 fun w0=>?_
 refine Js (To.g (Jal fun b8=>?_))
 refine Jz 5 ?_
 refine To.one 1 rfl (ro (some ⟨b,0,none⟩) [vs A ps q]) rfl (NT) (To.one 2 rfl (ros Xx A ps) rfl (NU) (Jz 2 ?_))
 refine Jr (bF rfl underlying101 rfl rfl) ?_
 refine Jz 4 ?_
 refine JgP ?_ ?_<;>intro g18
 exact absurd g18 om
 refine Jz 4 ?_
 refine Jr (Ck (i:=1) rfl rfl sH rfl (Iq (A:=some ⟨b,0,none⟩) (o:=0) (k:=1) rfl)) ?_
 refine Jz 5 ?_
 refine Jcp rfl ?_ ?_<;>intro k26
 exact absurd k26 om
 refine Jz 7 ?_
 refine Jr (Ck (i:=1) rfl rfl sH rfl (Iq (A:=some ⟨b,0,none⟩) (o:=0) (k:=1) rfl)) ?_
 refine Jz 3 ?_
 refine Jal fun b10=>?_
 refine Jz 8 ?_
 refine JgP ?_ ?_<;>intro g37
 refine Jz 34 ?_
 refine Jr (.bd [iv 0,iv 0,nz]) ?_
 refine Jz 6 ?_
 refine Lp [] rfl (.inl rfl) results28 rfl (i:=3) rfl r43 rfl rfl ?_
 exact⟨rfl,rfl⟩
 refine Jz 6 ?_
 refine JgP ?_ ?_<;>intro g44
 refine Jz 27 ?_
 refine Jr (.bd [iv 0,iv 0,nz]) ?_
 refine Jz 6 ?_
 refine Lp [] rfl (.inl rfl) results28 rfl (i:=3) rfl r43 rfl rfl ?_
 exact⟨rfl,rfl⟩
 refine Jz 3 ?_
 refine JgP ?_ ?_<;>intro g48
 refine Jz 23 ?_
 refine Jr (.bd [iv 0,iv 0,nz]) ?_
 refine Jz 6 ?_
 refine Lp [] rfl (.inl rfl) results28 rfl (i:=3) rfl r43 rfl rfl ?_
 exact⟨rfl,rfl⟩
 refine Jz 6 ?_
 refine JgP ?_ ?_<;>intro g55
 refine Jz 16 ?_
 refine Jr (.bd [iv 0,iv 0,nz]) ?_
 refine Jz 6 ?_
 refine Lp [] rfl (.inl rfl) results28 rfl (i:=3) rfl r43 rfl rfl ?_
 exact⟨rfl,rfl⟩
 exact absurd hbad om
end Go.Proofs.YtlihklladkagpaaGreatDoor

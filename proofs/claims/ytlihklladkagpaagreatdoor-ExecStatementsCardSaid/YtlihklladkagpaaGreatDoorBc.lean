/- Own text. -/
import Derived.Test.YtlihklladkagpaaGreatDoorBb
set_option maxHeartbeats 8000000
set_option maxRecDepth 100000
set_option linter.unusedVariables false
set_option linter.unusedSimpArgs false
namespace Go.Proofs.YtlihklladkagpaaGreatDoor
open Go.Proofs.Tryz
open Go.RowKit Go.Flow Go.Mem Go.Sep Go.In
def arF(h s:List Nat)(k:Nat):Option Nat:=if k<h.length then h[k]?.map (·%3)else if k=0 then some 1 else if k<s.length then s[k]?.map (·%3)else none
def arP(h s:List Nat)(k:Nat):List Nat:=(List.range k).filterMap (arF h s)
theorem kH(h s:List Nat)(k:Nat):arP h s (k+1)=arP h s k++(arF h s k).toList:=by
 unfold arP;rw[List.range_succ,List.filterMap_append]
 congr 1
theorem kI{h s:List Nat}{k x:Nat}(e:arF h s k=some x):arP h s (k+1)=arP h s k++[x]:=by rw[kH,e];rfl
theorem MU{h s:List Nat}{k:Nat}(e:arF h s k=none):arP h s (k+1)=arP h s k:=by rw[kH,e];exact aEz _
theorem aBu{h s:List Cd}{k:Nat}{c:Cd}(e:h[k]?=some c):arF (h.map Cd.params) (s.map Cd.params) k=some (c.params%3):=by
 have hk:k<h.length:=(aEc.1 e).1
 unfold arF;rw[aEh (by rw[aEg];exact hk),aEp,e];rfl
theorem aBv{h s:List Cd}{k:Nat}{c:Cd}(hk:¬k<h.length)(h0:¬k=0)(e:s[k]?=some c):arF (h.map Cd.params) (s.map Cd.params) k=some (c.params%3):=by
 have hs:k<s.length:=(aEc.1 e).1
 unfold arF;rw[aEa (by rw[aEg];exact hk),aEa h0,aEh (by rw[aEg];exact hs),aEp,e];rfl
theorem aBw{h s:List Cd}(hk:¬0<h.length):arF (h.map Cd.params) (s.map Cd.params) 0=some 1:=by
 unfold arF;rw[aEa (by rw[aEg];exact hk),aEh rfl]
theorem aBx{h s:List Cd}{k:Nat}(hk:¬k<h.length)(h0:¬k=0)(hs:¬k<s.length):arF (h.map Cd.params) (s.map Cd.params) k=none:=by
 unfold arF;rw[aEa (by rw[aEg];exact hk),aEa h0,aEa (by rw[aEg];exact hs)]
theorem qW{C:Cx}{ρ:Cb}{Γ:List Ai}{K:Act→World→Prop}{α:Type}{enc:α→List Value}{A:OA}{l:List α}(n i:Nat)(hi:Γ[i]?=some (ros enc A l))(h:To C ρ (ros enc A (l.take n)::Γ) K):To C ρ Γ K:=by
 have e2:l.flatMap enc=(l.take n).flatMap enc++(l.drop n).flatMap enc:=by rw[←aFe,aFs]
 refine Sl (ros enc A (l.take n)) rfl (fun g hg=>Tn i hi ?_) (fun w hw=>?_) h
 · have h1:g∈Lu A ((l.take n).flatMap enc):=hg
   show g∈Lu A (l.flatMap enc)
   rw[e2]
   cases h2:(l.take n).flatMap enc with
   |nil=>rw[h2]at h1;simp[Lu]at h1
   |cons u us=>rw[h2]at h1;exact h1
 · have h3:Src w A (l.flatMap enc):=hw _ (mog hi)
   show Src w A ((l.take n).flatMap enc)
   rcases h3 with h3|⟨g,off,ha,hr⟩
   ·left;rw[e2]at h3;exact(List.append_eq_nil_iff.1 h3).1
   · refine .inr ⟨g,off,ha,fun j v hv=>hr j v ?_⟩
     rw[e2,aFj (aEc.1 hv).1];exact hv
theorem MV(p:Pt)(hp:p.Ok):
    Dz 50 [.agg #[.int .u8 ((p.ints:Nat):Int), .int .u8 ((p.tables:Nat):Int),vs p.Ah p.hs p.qh,vs p.As p.sec p.qs]] [ros Mm p.Ah p.hs,ros Mm p.As p.sec] (fun v Γ'=>∃(A:OA) (q:Nat),v= .slice A (XE (p.hs.map Cd.params) (p.sec.map Cd.params)).length q∧Γ'=[rows bP 3 1 A q (XE (p.hs.map Cd.params) (p.sec.map Cd.params))]):=by
 refine Am func50 ntmps50 fun w0=>?_
 refine Js (To.g (Jbo fun b1=>?_))
 refine Jz 15 ?_
 refine Cz (bP) 3 1 (Cw (fun s g mz ρ Γ=>∃(Ao:OA) (qo:Nat) (O:List Nat) (k:Nat),ρ=[s 1,(3,vs Ao O qo),(4,nv k)]∧Γ=[g 1,g 2,g 3,rows bP 3 1 Ao qo O]∧mz=3-k∧(k≤3)∧(O=arP (p.hs.map Cd.params) (p.sec.map Cd.params) k)∧(O.length≤k)) ⟨⟨none,0,([]:List Nat),0,rfl,rfl,rfl,om,rfl,om⟩,sb⟩ ?_)
 rintro mz _ _ ⟨Ao,qo,O,k,rfl,rfl,rfl,hk,hO,hOl⟩
 refine Jz 7 ?_
 refine Jcp rfl ?_ ?_<;>intro c6
 refine Jz 15 ?_
 refine Jcp rfl ?_ ?_<;>intro c9
 have c9n:k<p.hs.length:=om
 obtain⟨x,hx⟩:=exg p.hs k om
 have hxo:=(hp.hk x (mog hx)).1
 refine Jz 8 ?_
 refine Jr (Ke (a:=x.params) (b:=3) rfl rfl rfl om) ?_
 refine Jr (Fv rfl rfl underlying5 underlying3 (IntWalk.i64_in _ om)) ?_
 refine Eg [nv (x.params%3)] fun b24=>?_
 refine Jge rfl rfl rfl (Bg fE (i:=4) (j:=0) (el:=(x.params%3)) rfl s62 rfl rfl rfl rfl rfl om om) ?_
 rintro _ _ ⟨A25,q25,rfl,rfl⟩
 refine Jz 11 ?_
 refine Cg ⟨⟨A25,q25,(O++[(x.params%3)]),k+1,rfl,rfl,rfl,om,(by rw[kI (aBu hx),hO]),(by first|omega|(rw[lap];show _+1≤_;omega))⟩,sb⟩
 refine Jz 7 ?_
 refine Jcp rfl ?_ ?_<;>intro c26
 have h0:k=0:=om
 replace c9:¬0<p.hs.length:=om
 refine Jz 2 ?_
 refine Eg [iv 1] fun b30=>?_
 refine Jge rfl rfl rfl (Bg fE (i:=4) (j:=0) (el:=1) rfl s62 rfl rfl rfl rfl rfl om om) ?_
 rintro _ _ ⟨A31,q31,rfl,rfl⟩
 refine Jz 11 ?_
 refine Cg ⟨⟨A31,q31,(O++[1]),k+1,rfl,rfl,rfl,om,(by subst h0;rw[kI (aBw c9),hO]),(by first|omega|(rw[lap];show _+1≤_;omega))⟩,sb⟩
 replace c26:¬k=0:=om
 replace c9:¬k<p.hs.length:=om
 refine Jz 10 ?_
 refine Jcp rfl ?_ ?_<;>intro c32
 have c32n:k<p.sec.length:=om
 obtain⟨x,hx⟩:=exg p.sec k om
 have hxo:=(hp.sk x (mog hx)).1
 refine Jz 8 ?_
 refine Jr (Ke (a:=x.params) (b:=3) rfl rfl rfl om) ?_
 refine Jr (Fv rfl rfl underlying5 underlying3 (IntWalk.i64_in _ om)) ?_
 refine Eg [nv (x.params%3)] fun b47=>?_
 refine Jge rfl rfl rfl (Bg fE (i:=4) (j:=0) (el:=(x.params%3)) rfl s62 rfl rfl rfl rfl rfl om om) ?_
 rintro _ _ ⟨A48,q48,rfl,rfl⟩
 refine Jz 11 ?_
 refine Cg ⟨⟨A48,q48,(O++[(x.params%3)]),k+1,rfl,rfl,rfl,om,(by rw[kI (aBv c9 c26 hx),hO]),(by first|omega|(rw[lap];show _+1≤_;omega))⟩,sb⟩
 replace c32:¬k<p.sec.length:=om
 refine Jz 10 ?_
 refine Hu ⟨⟨Ao,qo,O,k+1,rfl,rfl,rfl,om,(by rw[MU (aBx c9 c26 c32),hO]),(by first|omega|(rw[lap];show _+1≤_;omega))⟩,sb⟩
 refine Jz 12 ?_
 refine Cu (Df (Du (Je1 results50 ?_)))
 have e:k=3:=om
 subst e
 exact⟨_,_,by rw[hO];rfl,by rw[hO];rfl⟩
theorem nJ{c:Ct}{ar:List Nat}{O:List Hd}{h:Hd}(hO:∀i h,(O.map Hd.pure)[i]?=some h→Xr c ar i h)(hh:Xr c ar O.length h.pure):∀i h',((O++[h]).map Hd.pure)[i]?=some h'→Xr c ar i h':=fun i h' hi=>by
 rw[aEq]at hi
 by_cases hl:i<(O.map Hd.pure).length
 ·rw[aFj hl]at hi;exact hO i h' hi
 · rw[aFw om]at hi
   rw[aEg]at hi hl
   have h0:i-O.length=0:=by
    rcases Nat.eq_zero_or_pos (i-O.length)with h0|h0
    ·exact h0
    ·rw[List.getElem?_eq_none (by simp;omega)]at hi;cases hi
   have hi2:i=O.length:=om
   rw[h0]at hi
   obtain rfl:h.pure=h':=by simpa using hi
   rw[hi2];exact hh
theorem Jhd{C:Cx}{ρ:Cb}{Γ:List Ai}{K:Act→World→Prop}(O:List Hd)(h:Hd)(k:To C ρ (all ((O++[h]).flatMap (Hd.kids eR))::Γ) K):To C ρ (ros aMb h.Ap h.ps::all (lsS h.Ab h.body)::all (O.flatMap (Hd.kids eR))::Γ) K:=by
 refine Dn (To.perm (aFc _ _ _) (Kq ?_))
 rw[aFe]at k
 rw[show[h].flatMap (Hd.kids eR)=ros aMb h.Ap h.ps::lsS h.Ab h.body from aEz _]at k
 exact k
theorem To.vs{C:Cx}{ρ:Cb}{Γ:List Ai}{K:Act→World→Prop}(O:List Hd)(A:OA)(q:Nat){ty:TypeId}(k:To C ρ (all (Vs.kids eR ⟨A,q,O⟩)::Γ) K):To C ρ (rows Me ty 3 A q O::all (O.flatMap (Hd.kids eR))::Γ) K:=Cq (Dn k)
theorem SX{C:Cx}{ρ:Cb}{Γ:List Ai}{K:Act→World→Prop}(k:To C ρ (all (([]:List Hd).flatMap (Hd.kids eR))::Γ) K):To C ρ Γ K:=Ko k
def aBy(b:Nat)(m:Mr)(ar:List Nat)(n:Nat):Value→List Ai→Prop:=fun v Γ'=>∃(O:List Hd) (Ao:OA) (qo np':Nat) (B':OA) (q':Nat) (bl':List Nat) (left':Nat),v=vs Ao O qo∧Γ'=[box b [nv m.ints,nv m.tables,nv m.flags,nv m.own,vs m.Aa m.ars m.qa,nv np',vs B' bl' q',nv left'] 158,ros Gw B' bl',all (arsK m.Aa m.ars),all (Vs.kids eR ⟨Ao,qo,O⟩)]∧(∀i h,(O.map Hd.pure)[i]?=some h→Xr m.ct ar i h)∧O.length=n∧okB bl' q'
theorem Td(b:Nat)(m:Mr)(hm:m.ct.Ok)(a:Ar)(ha:m.ars[m.own]?=some a)(A:OA)(qc:Nat)(cds:List Cd)(hcl:cds.length≤a.l.length)(hcd:∀x∈cds,x.Ok)(B:OA)(q:Nat)(bl:List Nat)(left:Nat)(hb:okB bl q):
    Dz 51 [pv b,vs A cds qc] [box b (cM m [vs B bl q,nv left]) 158,ros Gw B bl,all (arsK m.Aa m.ars),ros Mm A cds,all (cds.flatMap Cd.kids)] (aBy b m a.l cds.length):=by
 have hao:=LZ hm ha
 have hmo:m.own<m.ars.length:=by have:=hm.own;rwa[fG]at this
 have hma:m.ars.length≤3:=by have:=hm.some;rwa[fG]at this
 refine Am func51 ntmps51 fun w0=>?_
 refine Jz 19 ?_
 refine Cz (Me) 40 3 (SX (Cw (fun s g mz ρ Γ=>∃(np:Nat) (Bk:OA) (qk:Nat) (blk:List Nat) (leftk:Nat) (Ao:OA) (qo:Nat) (O:List Hd) (k:Nat),ρ=[s 0,(5,vs Ao O qo),s 8,s 9,(10,nv k)]∧Γ=[box b [nv m.ints,nv m.tables,nv m.flags,nv m.own,vs m.Aa m.ars m.qa,nv np,vs Bk blk qk,nv leftk] 158,ros Gw Bk blk,g 4,g 5,g 6,rows Me 40 3 Ao qo O,all (List.flatMap (Hd.kids eR) O)]∧mz=cds.length-k∧(k≤cds.length)∧(O.length=k)∧(∀i h,(O.map Hd.pure)[i]?=some h→Xr m.ct a.l i h)∧(okB blk qk)) ⟨⟨m.np,B,q,bl,left,none,0,([]:List Hd),0,rfl,rfl,rfl,om,rfl,(fun i h hi=>by simp at hi),hb⟩,sb⟩ ?_))
 rintro mz _ _ ⟨np,Bk,qk,blk,leftk,Ao,qo,O,k,rfl,rfl,rfl,hk,hOl,hO,hbk⟩
 refine Jz 6 ?_
 refine Jcp rfl ?_ ?_<;>intro c11
 obtain⟨c,hc0⟩:=exg cds k om
 have hc:=hcd c (mog hc0)
 obtain⟨x,hx⟩:=exg a.l k om
 have hxo:=hao.2.2 x (mog hx)
 have hcp:=hc.1
 have hcb:=hc.2.2
 refine Jz 9 ?_
 refine Jal fun b7=>?_
 refine Jz 5 ?_
 refine To.one 3 rfl (ros aG m.Aa m.ars) rfl (aEd ..) (To.one 4 rfl (ros bP a.A a.l) rfl (jI (mog ha)) (Jfw [] [0,1,2,3,5,6,7,11,104,108,109,110,112,113,14,15,516] (ocn _) ?_))
 refine Jz 16 ?_
 refine Fw.up rfl rfl rfl (Up.store (i:=3) rfl rfl rfl c3 rfl rfl (bt1 rfl)) (ocn _) ?_
 refine Jz 3 ?_
 refine To.one 7 rfl (ros Gw c.B c.bl) rfl (aEy.2 ⟨c,mog hc0,aEd ..⟩) (qW 40 0 rfl (Jfw [] [0,1,3,104,5,306,102,7,8,9,510] (ocn _) ?_))
 refine Jz 5 ?_
 refine Fw.qf (jJ c.bl.length 40) (ocn _) ?_
 refine Jz 1 ?_
 refine Fw.f rfl (Cr (v':= .slice c.B (c.bl.take 40).length c.q) (congrArg (fun z=>Value.slice c.B z c.q) (by rw[aEe];omega)) (Eo (hi:=min c.bl.length 40) rfl s22 rfl rfl om)) ?_
 refine Jz 2 ?_
 refine Fw.up rfl rfl rfl (Up.store (i:=5) rfl rfl rfl c22 rfl rfl (bt1 rfl)) (ocn _) ?_
 refine Jz 10 ?_
 refine To.nm (Ot [(0,pv b),(5,vs Ao O qo),(8,vs A cds qc),(9,nv cds.length),(10,nv k),(6,nv k)] sb (Ki (tel [(1,(nmR 104 3)),(9,(nmR 112 x))]) mixed.h (Hy 4 11 rfl (by kernel_rfl) ?_ ?_)))
 refine Qy [] [⟨0,[],0⟩,⟨2,[],0⟩,⟨5,[],0⟩,⟨6,[],0⟩,⟨7,[],0⟩,⟨10,[],0⟩,⟨1,[],4⟩,⟨3,[1],0⟩,⟨8,[],1⟩,⟨9,[1],4⟩,⟨11,[1,9],5⟩,⟨4,[],1⟩,⟨12,[],0⟩,⟨13,[],2⟩,⟨14,[13],5⟩,⟨15,[],0⟩] (by kernel_rfl) rfl (ocn _) (Jz 6 ?_)
 refine Fw.tf (Gq 104 3 om om) (ocn _) (fun _ _ h=>by obtain⟨_,_,_,rfl,_⟩:=h;rfl) ?_
 rintro _ _ ⟨An,qn,rfl,rfl,hAn⟩
 refine Fw.f rfl (Dg (j:=k) (hAn (by decide)) rfl rfl rfl s37 (by rw[Dq];omega)) ?_
 refine Jz 1 ?_
 refine Fw.tf (Gq 112 x om om) (ocn _) (fun _ _ h=>by obtain⟨_,_,_,rfl,_⟩:=h;rfl) ?_
 rintro _ _ ⟨An_2,qn_2,rfl,rfl,hAn_2⟩
 refine Da [7,2,7] (qJ b ({m with np:=x}:Mr) hm hxo 3 0 rfl c.B c.q (c.bl.take 40) 12 om (hc.2.take 40)) ?_
 rintro _ _ ⟨ls,As,qs,Bn,qn_3,bln,leftn,rfl,rfl,hls,hcs,hbn⟩
 refine⟨ocn _,?_⟩
 refine Fw.r rfl (Ck (i:=5) rfl rfl c9 rfl (Dc (rwg Ec (Ea om)) rfl)) ?_
 refine Fw.f rfl (.bd [.string (nm 104 k),vs An_2 (nms 112 x) qn_2,vs As ls qs]) ?_
 refine Es [.string (nm 104 k),vs An_2 (nms 112 x) qn_2,vs As ls qs] fun b57=>?_
 refine Fw.ge rfl rfl rfl rfl (Bg fD (i:=14) (j:=0) (el:=(⟨nm 104 k,An_2,qn_2,nms 112 x,As,qs,ls⟩:Hd)) rfl aAf rfl rfl rfl rfl rfl om om) ?_
 rintro _ _ ⟨A58,q58,rfl,rfl⟩
 refine⟨ocn _,?_⟩
 refine Jz 9 ?_
 refine Nz (Cq (mD (Ej (Jj (Jhd O (⟨nm 104 k,An_2,qn_2,nms 112 x,As,qs,ls⟩:Hd) (Cg ⟨⟨x,Bn,qn_3,bln,leftn,A58,q58,(O++[(⟨nm 104 k,An_2,qn_2,nms 112 x,As,qs,ls⟩:Hd)]),k+1,rfl,rfl,rfl,om,(by rw[lap,hOl];rfl),(nJ hO ⟨by rw[hOl];rfl,⟨x,by rw[hOl];exact hx,rfl,hls⟩,show Ca (Ba ls)≤12 by omega⟩),hbn⟩,sb⟩))))))
 refine Qy [] [⟨0,[],0⟩,⟨2,[],0⟩,⟨5,[],0⟩,⟨6,[],0⟩,⟨7,[],0⟩,⟨10,[],0⟩,⟨1,[],4⟩,⟨3,[1],0⟩,⟨8,[],1⟩,⟨9,[1],4⟩,⟨4,[1],1⟩,⟨11,[1,9],5⟩,⟨12,[],0⟩,⟨13,[],2⟩,⟨14,[13],5⟩,⟨15,[],0⟩] (by kernel_rfl) rfl (ocn _) (Jz 6 ?_)
 refine Fw.tf (Gq 104 3 om om) (ocn _) (fun _ _ h=>by obtain⟨_,_,_,rfl,_⟩:=h;rfl) ?_
 rintro _ _ ⟨An,qn,rfl,rfl,hAn⟩
 refine Fw.f rfl (Dg (j:=k) (hAn (by decide)) rfl rfl rfl s37 (by rw[Dq];omega)) ?_
 refine Jz 1 ?_
 refine Fw.tf (Gq 112 x om om) (ocn _) (fun _ _ h=>by obtain⟨_,_,_,rfl,_⟩:=h;rfl) ?_
 rintro _ _ ⟨An_2,qn_2,rfl,rfl,hAn_2⟩
 refine Fw.r rfl (Ck (i:=0) rfl rfl c9 rfl (Dc (rwg Ec (Ea om)) rfl)) ?_
 refine Da [7,2,7] (qJ b ({m with np:=x}:Mr) hm hxo 3 0 rfl c.B c.q (c.bl.take 40) 12 om (hc.2.take 40)) ?_
 rintro _ _ ⟨ls,As,qs,Bn,qn_3,bln,leftn,rfl,rfl,hls,hcs,hbn⟩
 refine⟨ocn _,?_⟩
 refine Fw.f rfl (.bd [.string (nm 104 k),vs An_2 (nms 112 x) qn_2,vs As ls qs]) ?_
 refine Es [.string (nm 104 k),vs An_2 (nms 112 x) qn_2,vs As ls qs] fun b57=>?_
 refine Fw.ge rfl rfl rfl rfl (Bg fD (i:=14) (j:=0) (el:=(⟨nm 104 k,An_2,qn_2,nms 112 x,As,qs,ls⟩:Hd)) rfl aAf rfl rfl rfl rfl rfl om om) ?_
 rintro _ _ ⟨A58,q58,rfl,rfl⟩
 refine⟨ocn _,?_⟩
 refine Jz 9 ?_
 refine Nz (Cq (mD (Ej (Jj (Jhd O (⟨nm 104 k,An_2,qn_2,nms 112 x,As,qs,ls⟩:Hd) (Cg ⟨⟨x,Bn,qn_3,bln,leftn,A58,q58,(O++[(⟨nm 104 k,An_2,qn_2,nms 112 x,As,qs,ls⟩:Hd)]),k+1,rfl,rfl,rfl,om,(by rw[lap,hOl];rfl),(nJ hO ⟨by rw[hOl];rfl,⟨x,by rw[hOl];exact hx,rfl,hls⟩,show Ca (Ba ls)≤12 by omega⟩),hbn⟩,sb⟩))))))
 refine Jz 12 ?_
 refine Ej (Ej (To.vs O Ao qo (Iu (Er (Ic (Ic (Ic (Je1 results51 ?_))))))))
 exact⟨O,_,_,_,_,_,_,_,rfl,rfl,hO,by omega,hbk⟩
end Go.Proofs.YtlihklladkagpaaGreatDoor

/- Own text. -/
import Derived.Test.YtihgdnjkofpgiaaGreatDoorUo
set_option maxHeartbeats 8000000
set_option maxRecDepth 100000
set_option linter.unusedVariables false
set_option linter.unusedSimpArgs false
namespace Go.Proofs.YtihgdnjkofpgiaaGreatDoor
open Go.Proofs.Tryz
open Go.RowKit Go.Flow Go.Mem Go.Sep Go.In
theorem QM(F:Fl)(c p:Int)(hc:c<0∨(F.comps.length:Int)≤c):
    Dz 13 [.agg (cF F []).toArray,iv c,iv p] [all (F.kids eR)] (fun v Γ'=>v= .tuple #[iv 0,bf,bf]∧Γ'=[]):=by
 refine Ba func13 ntmps13 fun w0=>?_;refine Js (eu (Jbo fun b3=>?_));refine Jz 10 ?_;refine JgP ?_ ?_<;>intro g14;refine Jz 33 ?_;refine Cr (Cq (Nv (.inl rfl) results13 rfl rfl rfl ?_));exact⟨rfl,rfl⟩;refine Jz 6 ?_;refine JgP ?_ ?_<;>intro g21;refine Jz 26 ?_;refine Cr (Cq (Nv (.inl rfl) results13 rfl rfl rfl ?_));exact⟨rfl,rfl⟩;exact aPu hc om
theorem QN(F:Fl)(k:Nat)(x:Cm)(hx:F.comps[k]?=some x)(p:Int)(hp:p<0∨(x.vars.length:Int)≤p):
    Dz 13 [.agg (cF F []).toArray,nv k,iv p] [all (F.kids eR)] (fun v Γ'=>v= .tuple #[iv 0,bf,bf]∧Γ'=[]):=by
 have hkl:k<F.comps.length:=(aOz.1 hx).1;refine Ba func13 ntmps13 fun w0=>?_;refine Js (eu (Jbo fun b3=>?_));refine Jz 7 ?_;refine cu 1 rfl (ros Gm F.Ac F.comps) rfl (En (k:=eR)) (Jz 3 ?_);refine JgP ?_ ?_<;>intro g14;refine Jz 33 ?_;refine Ck (Cr (Cq (Nv (.inl rfl) results13 rfl rfl rfl ?_)));exact⟨rfl,rfl⟩;refine Jz 6 ?_;refine JgP ?_ ?_<;>intro g21;refine Jz 26 ?_;refine Ck (Cr (Cq (Nv (.inl rfl) results13 rfl rfl rfl ?_)));exact⟨rfl,rfl⟩;refine Jz 3 ?_;refine JgP ?_ ?_<;>intro g25;refine Jz 22 ?_;refine Ck (Cr (Cq (Nv (.inl rfl) results13 rfl rfl rfl ?_)));exact⟨rfl,rfl⟩;refine Jz 12 ?_;refine aa rfl ?_ ?_<;>intro k35;refine Jz 9 ?_;refine Ck (Cr (Cq (Nv (.inl rfl) results13 rfl rfl rfl ?_)));exact⟨rfl,rfl⟩;exact aPu hp om
theorem QO(F:Fl)(k:Nat)(x:Cm)(hx:F.comps[k]?=some x)(p:Nat)(z:Vr)(hz:x.vars[p]?=some z)(hvl:x.vars.length≤1000):
    Dz 13 [.agg (cF F []).toArray,nv k,nv p] [all (F.kids eR)] (fun r Γ'=>r= .tuple #[nv (vkN (decide (z.ty=3)) (x.vars.take p)), .bool (decide (z.ty=3)),bt]∧Γ'=[]):=by
 have hkl:k<F.comps.length:=(aOz.1 hx).1;have hpl:p<x.vars.length:=(aOz.1 hz).1;refine Ba func13 ntmps13 fun w0=>?_;refine Js (eu (Jbo fun b3=>?_));refine Jz 7 ?_;refine cu 1 rfl (ros Gm F.Ac F.comps) rfl (En (k:=eR)) (cu 2 rfl (ros Pw x.Av x.vars) rfl (Dg hx _ (Kj (k:=eR))) (Jz 3 ?_));refine JgP ?_ ?_<;>intro g14
 first|exact aPu c14 om|exact aPu k14 om|exact aPu g14 om
 refine Jz 6 ?_;refine JgP ?_ ?_<;>intro g21
 first|exact aPu c21 om|exact aPu k21 om|exact aPu g21 om
 refine Jz 3 ?_;refine JgP ?_ ?_<;>intro g25
 first|exact aPu c25 om|exact aPu k25 om|exact aPu g25 om
 refine Jz 12 ?_;refine aa rfl ?_ ?_<;>intro k35
 first|exact aPu c35 om|exact aPu k35 om|exact aPu g35 om
 refine Jz 25 ?_;refine Bz (fun s g mz ρ Γ=>∃(n:Nat) (j:Nat),ρ=[s 2,s 9,(10,nv n),(11,nv j)]∧Γ=[g 3,g 0]∧mz=p-j∧(j≤p)∧(n≤j)∧(vkN (decide (z.ty=3)) (x.vars.take p)=n+vkN (decide (z.ty=3)) ((x.vars.take p).drop j))) ⟨⟨0,0,rfl,rfl,rfl,om,(aPl _),(by rw[List.drop_zero];omega)⟩,sb⟩ ?_;rintro mz _ _ ⟨n,j,rfl,rfl,rfl,hj,hn,hS⟩;refine Jz 8 ?_;refine aa rfl ?_ ?_<;>intro k44;obtain⟨y,hy⟩:=aj x.vars j om;have hyt:(x.vars.take p)[j]?=some y:=by rw[aRl,aPr om];exact hy
 refine Jz 5 ?_;refine Jfw [] [0,1,6,7,102,3,104,5,108,9,110,11,12] (jP _) ?_;refine Jz 7 ?_;refine fo rfl (Cn (v':= .bool (decide (y.ty=3))) (by rw[tL]) (Rd.eql rfl rfl rfl)) ?_;refine Jz 3 ?_;refine fo rfl (Cn (v':= .bool (decide (z.ty=3))) (by rw[tL]) (Rd.eql rfl rfl rfl)) ?_;refine fo rfl (jJ rfl underlying4 rfl rfl) ?_;refine Jz 2 ?_;refine Ej rfl ?_ ?_<;>intro k59;have h59:decide (y.ty=3)=(decide (z.ty=3)):=by simpa using k59
 refine Jz 13 ?_;refine Db ⟨⟨n+1,j+1,rfl,rfl,rfl,om,om,(by rw[hS,KZ hyt h59];omega)⟩,sb⟩;have h59:¬decide (y.ty=3)=(decide (z.ty=3)):=by simpa using k59
 refine Jz 9 ?_;refine Db ⟨⟨n,j+1,rfl,rfl,rfl,om,om,(by rw[hS,CB hyt h59])⟩,sb⟩;refine Jz 6 ?_;refine Jfw [] [0,1,2,7,103,4,105,6,8,9] (jP _) ?_;refine Jz 7 ?_;refine fo rfl (Cn (v':= .bool (decide (z.ty=3))) (by rw[tL]) (Rd.eql rfl rfl rfl)) ?_;refine Jz 5 ?_;refine Cr (Cq (Nv (.inl rfl) results13 rfl rfl rfl ?_));have hr:vkN (decide (z.ty=3)) (x.vars.take p)=n:=by rw[hS,aQy (by rw[aPo];omega)];rfl
 rw[hr];exact⟨rfl,rfl⟩
theorem CR(F:Fl)(hB:PFB F.pure)(c p:Int):Dz 13 [.agg (cF F []).toArray,iv c,iv p] [all (F.kids eR)] (fun r Γ'=>r= .tuple #[nv (((Nw F.pure c p).map Prod.fst).getD 0), .bool (((Nw F.pure c p).map Prod.snd).getD false), .bool (Nw F.pure c p).isSome]∧Γ'=[]):=by
 rcases Lv F.comps c with hc|⟨k,x,rfl,hx⟩
 · rw[show Nw F.pure c p=none by unfold Nw;rw[←Vb,Yx hc,Qx (by show p<0∨((0:Nat):Int)≤p;omega)]]
   exact QM F c p hc
 rcases Lv x.vars p with hp|⟨n,z,rfl,hz⟩
 · rw[show Nw F.pure (k:Int) p=none by unfold Nw;rw[←Vb,Sy hx,Qx hp]]
   exact QN F k x hx p hp
 · have e:Nw F.pure (k:Int) (n:Int)=some (vkN (decide (z.ty=3)) (x.vars.take n),decide (z.ty=3)):=by
     unfold Nw;rw[←Vb,Sy hx,Ua,hz];rfl
   rw[e];exact QO F k x hx n z hz (hB.at_ hx).1
theorem QP(fb:Nat)(X:FB)(G:List Ad)(hG:Lax G)(hC:X.F.Cap)(k:Nat)(x:Cm)(hx:X.F.comps[k]?=some x)(hvl:x.vars.length≤1000):
    Dz 11 [pv fb,nv k] [all (flk fb X G)] (fun v Γ'=>∃(A:OA) (q:Nat) (B:OA) (r:Nat),v= .agg #[.slice A (Mo x.vars).length q, .slice B (Xi x.vars).length r,nz]∧Γ'=[rows QL 2 1 A q (Mo x.vars),rows tX 43 1 B r (Xi x.vars)]):=by
 refine Ba func11 ntmps11 fun w0=>?_;refine Js (eu (ae fun b4=>?_));refine Jz 4 ?_;refine ae fun b5=>?_;refine Jz 7 ?_;refine Jqf (Wq fb X G hG k x hx) (by show owns (flk fb X G)++[]=[];rw[(Gf hG).owns];rfl) (jS (lS 2 rfl) (jP _)) ?_;rintro _ _ ⟨rfl,rfl⟩;refine⟨rfl,?_⟩;refine Jr (Rt (vs:=(cX x [])) rfl underlying107 rfl underlying88 rfl rfl rfl) ?_;refine Jz 5 ?_;refine cu 2 rfl (ros Hg x.Av x.vars) rfl (pM _ (Dg hx _ (Kj (k:=eX)))) (Dv (QL) 2 1 (Dv (tX) 43 1 (Bz (fun s g mz ρ Γ=>∃(Ai:OA) (qi:Nat) (O:List Int) (Bt:OA) (qt:Nat) (Q:List Unit) (j:Nat),ρ=[s 4,s 5,s 11,s 12,(13,nv j)]∧Γ=[g 5,g 4,box b5 [vs Ai O qi,vs Bt Q qt,nz] 45,g 2,rows QL 2 1 Ai qi O,rows tX 43 1 Bt qt Q]∧mz=x.vars.length-j∧(j≤x.vars.length)∧(O=Mo (x.vars.take j))∧(Q=Xi (x.vars.take j))) ⟨⟨none,0,([]:List Int),none,0,([]:List Unit),0,rfl,rfl,rfl,om,rfl,rfl⟩,sb⟩ ?_)));rintro mz _ _ ⟨Ai,qi,O,Bt,qt,Q,j,rfl,rfl,rfl,hj,hO,hQ⟩;have hOl:O.length≤1000:=by rw[hO,fC];have:=IB false (x.vars.take j);rw[aPo]at this;omega
 have hQl:Q.length≤1000:=by rw[hQ,fD];have:=IB true (x.vars.take j);rw[aPo]at this;omega
 refine Jz 6 ?_;refine aa rfl ?_ ?_<;>intro k14;obtain⟨y,hy⟩:=aj x.vars j om;refine Jz 8 ?_;refine ae fun b7=>?_;refine Jz 7 ?_;refine Jr (Cn (v':= .bool (decide (y.ty=3))) (by rw[tL]) (Rd.eql rfl rfl rfl)) ?_;refine Jn (Jt (aa rfl (fun k19=>?_) (fun k19=>?_)));have h19:y.ty=3:=by first|simpa using k19|simpa using c19|simpa using g19
 refine Jz 3 ?_;refine Jr (.bd [nz]) ?_;refine Er [nz] fun b23=>?_;refine Jge rfl rfl rfl (Cf XR (i:=7) (j:=0) (el:=()) rfl s40 rfl rfl rfl rfl rfl om om) ?_;rintro _ _ ⟨A24,q24,rfl,rfl⟩;refine Jz 10 ?_;refine Bp ⟨⟨Ai,qi,O,A24,q24,(Q++[()]),j+1,rfl,rfl,rfl,om,(by rw[aIr hy h19,←hO]),(by rw[aIt hy h19,←hQ])⟩,sb⟩;have h19:¬y.ty=3:=by first|simpa using k19|simpa using c19|simpa using g19
 refine Jz 5 ?_;refine Er [iv y.init] fun b30=>?_;refine Jge rfl rfl rfl (Cf aDu (i:=6) (j:=0) (el:=y.init) rfl s39 rfl rfl rfl rfl rfl om om) ?_;rintro _ _ ⟨A31,q31,rfl,rfl⟩;refine Jz 10 ?_;refine Bp ⟨⟨A31,q31,(O++[y.init]),Bt,qt,Q,j+1,rfl,rfl,rfl,om,(by rw[aIs hy h19,←hO]),(by rw[aIu hy h19,←hQ])⟩,sb⟩;refine Jz 12 ?_;refine Ee [4,4] results11 ?_;obtain rfl:O=Mo x.vars:=by rw[hO,aQa om]
 obtain rfl:Q=Xi x.vars:=by rw[hQ,aQa om]
 exact⟨_,_,_,_,rfl,rfl⟩
theorem CS:
    Dz 14 [.agg #[nz]] [] (fun v Γ'=>v=iv 0∧Γ'=[]):=by
 refine Ba func14 ntmps14 fun w0=>?_;refine Js (eu (Jbo fun b1=>?_));refine Jz 12 ?_;refine Cq (bg results14 ?_);exact⟨rfl,rfl⟩
theorem aMq{X:FB}{F:Fl}(hXp:X.F.pure=F.pure){k:Nat}{x:Cm}(hx:F.comps[k]?=some x):∃x',X.F.comps[k]?=some x'∧x'.pure=x.pure:=by
 have h1:F.pure.comps[k]?=some x.pure:=by show(F.comps.map Cm.pure)[k]?=_;rw[aPs,hx];rfl
 rw[←hXp]at h1;have h2:(X.F.comps.map Cm.pure)[k]?=some x.pure:=h1;rw[aPs]at h2;cases h3:X.F.comps[k]? with
 |none=>rw[h3]at h2;cases h2
 |some x'=>rw[h3]at h2;exact⟨x',rfl,aPq h2⟩
theorem XT(fb:Nat)(X:FB)(G:List Ad)(hG:Lax G)(hC:X.F.Cap)(F:Fl)(hXp:X.F.pure=F.pure)(hB:PFB F.pure)(k:Nat)(x:Cm)(hx:F.comps[k]?=some x):Dz 11 [pv fb,nv k] [all (flk fb X G)] (fun v Γ'=>∃(A:OA) (q:Nat) (B:OA) (r:Nat),v= .agg #[.slice A (Mo x.vars).length q, .slice B (Xi x.vars).length r,nz]∧Γ'=[rows QL 2 1 A q (Mo x.vars),rows tX 43 1 B r (Xi x.vars)]):=by
 obtain⟨x',h1,h2⟩:=aMq hXp hx;have h3:x'.vars=x.vars:=aPe PC.vars h2;have h4:=QP fb X G hG hC k x' h1 (by rw[h3];exact(hB.at_ hx).1);rw[h3]at h4;exact h4
theorem CU{F:Fl}{k n:Nat}{x:Cm}{z:Vr}(hx:F.comps[k]?=some x)(hz:x.vars[n]?=some z):Nw F.pure (k:Int) (n:Int)=some (vkN (decide (z.ty=3)) (x.vars.take n),decide (z.ty=3)):=by
 unfold Nw;rw[←Vb,Sy hx,Ua,hz];rfl
theorem tY(fb:Nat)(X:FB)(G:List Ad)(hG:Lax G)(hC:X.F.Cap)(F:Fl)(hXp:X.F.pure=F.pure)(hB:PFB F.pure)(c p:Int):Dz 12 [pv fb,iv c,iv p] [all (flk fb X G)] (fun r Γ'=>r= .tuple #[nv (((Nw F.pure c p).map Prod.fst).getD 0), .bool (((Nw F.pure c p).map Prod.snd).getD false), .bool (Nw F.pure c p).isSome]∧Γ'=[]):=by
 have h:=CO fb X G hG hC (by rw[hXp];exact hB) c p;rw[hXp]at h;exact h
theorem QQ(fb:Nat)(X:FB)(G:List Ad)(hG:Lax G)(hC:X.F.Cap)(F:Fl)(hXp:X.F.pure=F.pure)(hB:PFB F.pure)(k:Nat)(x:Cm)(hx:F.comps[k]?=some x)(n:Nat)(z:Vr)(hz:x.vars[n]?=some z):Dz 12 [pv fb,nv k,nv n] [all (flk fb X G)] (fun r Γ'=>r= .tuple #[nv (vkN (decide (z.ty=3)) (x.vars.take n)), .bool (decide (z.ty=3)),bt]∧Γ'=[]):=by
 have h:=tY fb X G hG hC F hXp hB k n;rw[CU hx hz]at h;exact h
theorem QR(F:Fl)(hB:PFB F.pure)(k:Nat)(x:Cm)(hx:F.comps[k]?=some x)(n:Nat)(z:Vr)(hz:x.vars[n]?=some z):Dz 13 [.agg (cF F []).toArray,nv k,nv n] [all (F.kids eR)] (fun r Γ'=>r= .tuple #[nv (vkN (decide (z.ty=3)) (x.vars.take n)), .bool (decide (z.ty=3)),bt]∧Γ'=[]):=by
 have h:=CR F hB k n;rw[CU hx hz]at h;exact h
theorem XU(p:Pl)(hp:p.Ok)(c v:Int):
    Dz 3 [.agg (cL p []).toArray,iv c,iv v] [all p.kids,gAc,glc,p10c,Fx,Uf] (fun v _=>v=bt):=by
 refine Ba func3 ntmps3 fun w0=>?_;refine Js (eu (Jbo fun b3=>?_));refine Jz 6 ?_;refine Jvf (pR) rfl (jS (lS 2 rfl) (jS (lS 3 rfl) (jS (lS 4 rfl) (jS (lS 5 rfl) (jS (lS 6 rfl) (jP _)))))) ?_;refine Jz 9 ?_;refine az [1,2,2,2,2] (wV p hp) ?_;rintro _ _ ⟨F,fb,X,A,q,ps,rfl,rfl,hG,hXC,hXp,F',hF',hP⟩;refine Jz 3 ?_;refine ae fun b8=>?_;refine Jz 6 ?_;have hFc:F.comps.length≤3:=(Sm hG).comps;have hB:PFB F.pure:=wW hG;have hXC2:X.F.Cap:=hXC;refine Jz 2 ?_;refine Jr (Fh rfl underlying27 rfl rfl) ?_;refine Jz 7 ?_;refine cu 2 rfl (ros Gm F.Ac F.comps) rfl (En (k:=eR)) (Jz 8 ?_);refine Bz (fun s g mz ρ Γ=>∃(k:Nat),ρ=[s 1,s 2,s 7,s 8,s 37,s 38,(39,nv k)]∧Γ=[g 2,g 3,g 1,g 0]∧mz=F.comps.length-k∧(k≤F.comps.length)) ⟨⟨0,rfl,rfl,rfl,om⟩,sb⟩ ?_;rintro mz _ _ ⟨k,rfl,rfl,rfl,hk⟩;refine Jz 6 ?_;refine aa rfl ?_ ?_<;>intro k40;obtain⟨x,hx⟩:=aj F.comps k om;have hvl:=(hB.at_ hx).1;refine Jz 9 ?_;refine ae fun b10=>?_;refine Jz 8 ?_;refine Jqf (XT fb X (pgk X.pb A q ps) (Lb _ _ _ _) hXC F hXp hB k x hx) (by show owns (flk fb X (pgk X.pb A q ps))++[]=[];rw[(Gf (Lb _ _ _ _)).owns];rfl) (jS (lS 1 rfl) (jP _)) ?_;rintro _ _ ⟨Ai,qi,Bt,qt,rfl,rfl⟩;refine⟨rfl,?_⟩;refine ae fun b11=>?_;refine Jz 10 ?_;refine cu 5 rfl (ros Pw x.Av x.vars) rfl (Dg hx _ (Kj (k:=eR))) (Jz 8 ?_);refine Bz (fun s g mz ρ Γ=>∃(n:Nat) (j:Nat),ρ=[s 1,s 2,s 7,s 8,s 37,s 38,s 39,s 9,s 10,s 11,(12,nv n),s 48,s 49,(50,nv j)]∧Γ=[g 5,g 6,g 7,g 8,g 4,g 1,g 0,g 2,g 3]∧mz=x.vars.length-j∧(j≤x.vars.length)∧(n=vkN true (x.vars.take j))) ⟨⟨0,0,rfl,rfl,rfl,om,rfl⟩,sb⟩ ?_;rintro mz _ _ ⟨n,j,rfl,rfl,rfl,hj,hn⟩;have hnl:n≤1000:=by rw[hn];have:=IB true (x.vars.take j);rw[aPo]at this;omega
 refine Jz 6 ?_;refine aa rfl ?_ ?_<;>intro k51;obtain⟨y,hy⟩:=aj x.vars j om;refine Jz 9 ?_;refine ae fun b14=>?_;refine Jz 9 ?_;refine Jqf (QQ fb X (pgk X.pb A q ps) (Lb _ _ _ _) hXC F hXp hB k x hx j y hy) (by show owns (flk fb X (pgk X.pb A q ps))++[]=[];rw[(Gf (Lb _ _ _ _)).owns];rfl) (jS (lS 1 rfl) (jP _)) ?_;rintro _ _ ⟨rfl,rfl⟩;refine⟨rfl,?_⟩;refine Jz 14 ?_;refine Jqf (QR F hB k x hx j y hy) (by show owns (F.kids eR)++[]=[];rw[(Fl.lax eR F).owns];rfl) (jS (lS 2 rfl) (jP _)) ?_;rintro _ _ ⟨rfl,rfl⟩;refine⟨rfl,?_⟩;refine Jz 14 ?_;refine Jr (Cn (v':=bf) sm (Rd.neq rfl rfl rfl)) ?_;refine Jz 3 ?_;refine Jr (Cn (v':=bf) sm (Cn (v':=bf) (aPe Value.bool (by first|rfl|(rw[beq_self_eq_true];rfl))) (bV rfl underlying4 rfl rfl))) ?_;refine Jz 4 ?_;refine Jr (Cn (v':=bf) sm (Cn (v':=bf) (aPe Value.bool (by first|rfl|(rw[beq_self_eq_true];rfl))) (bV rfl underlying4 rfl rfl))) ?_;refine Jz 11 ?_;refine Ej rfl ?_ ?_<;>intro k84;have h84:y.ty=3:=by first|simpa using k84|simpa using c84|simpa using g84
 have e84:decide (y.ty=3)=true:=by simp[h84]
 have hlt:vkN (decide (y.ty=3)) (x.vars.take j)<(Xi x.vars).length:=by rw[fD,e84];exact IL hy e84
 have hqt:(Xi x.vars)[vkN (decide (y.ty=3)) (x.vars.take j)]?=some ():=by rw[e84];exact aDw hy h84
 refine Jz 14 ?_;refine JgP ?_ ?_<;>intro g92
 first|exact aPu c92 om|exact aPu k92 om|exact aPu g92 om
 refine Jz 3 ?_;refine Jr (Lc (i:=9) (j:=(vkN (decide (y.ty=3)) (x.vars.take j))) rfl rfl rfl s40 rfl hqt) ?_;refine Jz 1 ?_;refine Jvf (CS.mono fun _ _ h=>h.1) rfl ((jP _)) ?_;refine Jz 13 ?_;refine Bp ⟨⟨n+1,j+1,rfl,rfl,rfl,om,(by rw[aFj hy h84,←hn])⟩,sb⟩;have h84:¬y.ty=3:=by first|simpa using k84|simpa using c84|simpa using g84
 have e84:decide (y.ty=3)=false:=by simp[h84]
 have hlt:vkN (decide (y.ty=3)) (x.vars.take j)<(Mo x.vars).length:=by rw[fC,e84];exact IL hy e84
 have hqi:(Mo x.vars)[vkN (decide (y.ty=3)) (x.vars.take j)]?=some y.init:=by rw[e84];exact aDv hy h84
 refine Js (Jfw [] [0,1,102,3,4,5,6,8,11,107,109,110,112,13,14] (jP _) ?_);refine Jz 5 ?_;refine Xo rfl rfl rfl rfl (gm rfl rfl) (fun g106=>?_) (fun g106=>?_)
 first|exact aPu c106 om|exact aPu k106 om|exact aPu g106 om
 refine Jz 4 ?_;refine Ld rfl (Lc (i:=8) (j:=(vkN (decide (y.ty=3)) (x.vars.take j))) rfl rfl rfl s39 rfl hqi) ?_;refine Jz 6 ?_;refine aa rfl ?_ ?_<;>intro k115
 first|exact aPu aGq om|exact aPu k115 om|exact aPu g115 om
 refine Jz 8 ?_;refine Bp ⟨⟨n,j+1,rfl,rfl,rfl,om,(by rw[aFk hy h84,←hn])⟩,sb⟩;refine Jz 6 ?_;have ht1:(Xi x.vars).length=n:=by rw[fD,hn,aQa om]
 have ht2:(Mo x.vars).length+n=x.vars.length:=by have:=aIq x.vars;rw[fC,←ht1,fD];omega
 refine Jz 6 ?_;refine JgP ?_ ?_<;>intro g122
 first|exact aPu aNt om|exact aPu k122 om|exact aPu g122 om
 refine Jz 7 ?_;refine Jr (Cn (v':=nv ((Mo x.vars).length)) (aPe iv om) (Ev rfl rfl rfl om)) ?_;refine Jz 2 ?_;refine JgP ?_ ?_<;>intro g133
 first|exact aPu dO om|exact aPu k133 om|exact aPu g133 om
 refine Jz 1 ?_;refine Jr (Pg (i:=5) (us:=[nz]) rfl rfl r43 rfl (Np (n:=1) rfl) rfl) ?_;refine Jvf (CS.mono fun _ _ h=>h.1) rfl ((jP _)) ?_;refine Jz 13 ?_;refine Bp ⟨⟨k+1,rfl,rfl,rfl,om⟩,sb⟩;refine Jz 10 ?_;refine Jqf (tY fb X (pgk X.pb A q ps) (Lb _ _ _ _) hXC F hXp hB c v) (by show owns (flk fb X (pgk X.pb A q ps))++[]=[];rw[(Gf (Lb _ _ _ _)).owns];rfl) (jS (lS 0 rfl) (jP _)) ?_;rintro _ _ ⟨rfl,rfl⟩;refine⟨rfl,?_⟩;refine Jz 14 ?_;refine Jqf (CR F hB c v) (by show owns (F.kids eR)++[]=[];rw[(Fl.lax eR F).owns];rfl) (jS (lS 1 rfl) (jP _)) ?_;rintro _ _ ⟨rfl,rfl⟩;refine⟨rfl,?_⟩;refine Jz 13 ?_;refine Jr (Cn (v':=bt) sm (Rd.eql rfl rfl rfl)) ?_;refine Jz 3 ?_;refine Jr (Cn (v':=bt) sm (Cn (v':=bt) (aPe Value.bool (beq_self_eq_true _)) (jJ rfl underlying4 rfl rfl))) ?_;refine Jz 4 ?_;refine Jr (Cn (v':=bt) sm (Cn (v':=bt) (aPe Value.bool (beq_self_eq_true _)) (jJ rfl underlying4 rfl rfl))) ?_;refine Jz 5 ?_;refine bg results3 ?_;rfl
end Go.Proofs.YtihgdnjkofpgiaaGreatDoor

/- Own text. -/
import Derived.Test.YtlihklladkagpaaGreatDoorMa
set_option linter.unusedVariables false
set_option linter.unusedSimpArgs false
set_option maxHeartbeats 2000000
set_option maxRecDepth 100000
namespace Go.Proofs.YtlihklladkagpaaGreatDoor
open Go.Proofs.Tryz
open Go.RowKit Go.Flow Go.Mem Go.Sep Go.In
theorem GX{P:Program}{C:Cx}{ρ:Cb}{Γ Δ E:List Ai}{R:Value→List Ai→Prop}{fn:Func}{ex:Exit}{t b n i u u2:Nat}{ty ty':TypeId}{cs:List Value}{v v2:Value}(is:List Nat)(hpl:Te Γ is=some (Δ,E))(hex:ex= .ret∨ex= .normal)(hres:fn.results=#[.cell t ty, .tmp u, .tmp u2])(hv:Sep.look ρ t=some (pv b))
    (hi:Γ[i]?=some (box b cs ty')) (ht:Eb P ty n) (hl:cs.length=n) (hu:Sep.look ρ u=some v) (hu2:Sep.look ρ u2=some v2) (h:R (.tuple #[.agg cs.toArray,v,v2]) Δ) (hds:C.ds=[]:=by rfl):To C ρ Γ (bodyPost P fn (Fin C R) ex):=fun a w ha hp=>by
 have hr:(results fn a.tmps).run P w= .ok (.tuple #[.agg cs.toArray,v,v2]) w:=by
  obtain⟨d,h1,h2,h3⟩:=ht
  have hw:=hp.sat.each _ (mog hi)
  have:=run_loadVar_mid (P:=P) w b 0 ty cs d (Ip hw) h1 h2 (by rw[hl];exact h3)
  have he:a.tmps[t]?.getD undef=pv b:=by rw[ha.sees t _ hv];rfl
  have he2:a.tmps[u]?.getD undef=v:=by rw[ha.sees u _ hu];rfl
  have he3:a.tmps[u2]?.getD undef=v2:=by rw[ha.sees u2 _ hu2];rfl
  simp[results,hres,he,he2,he3,asAddr,this]
 have hq:Dj C.Γ0 Δ C.w0 w:=(hp.perm (Hz hpl)).drop
 rcases hex with rfl|rfl
 ·exact⟨ha.defers.trans hds,_,hr,_,Δ,rfl,h,hq⟩
 ·exact⟨ha.defers.trans hds,_,hr,_,Δ,rfl,h,hq⟩
theorem TZ(p:Pl)(hp:p.Ok)(a1 a2 a3:Nat)(h1:a1<256)(h2:a2<256)(h3:a3<256):
    Dz 9 [.agg (cL p []).toArray, .agg #[.int .u8 ((a1:Nat):Int), .int .u8 ((a2:Nat):Int), .int .u8 ((a3:Nat):Int)]] [all p.kids,glc,p10c,Kn] (fun v Γ'=>∃(F:Fl) (c:Cm) (oi vi:Nat) (s:ByteArray) (B:OA) (m:Nat),v= .tuple #[.agg (cF F [nv oi, .string ((Gz (Ei s none (c.vers.take (vi+1)))).name), .slice ((Gz (Ei s none (c.vers.take (vi+1)))).Ap) ((Gz (Ei s none (c.vers.take (vi+1)))).ps.length) ((Gz (Ei s none (c.vers.take (vi+1)))).qp), .slice ((Gz (Ei s none (c.vers.take (vi+1)))).Ab) ((Gz (Ei s none (c.vers.take (vi+1)))).body.length) ((Gz (Ei s none (c.vers.take (vi+1)))).qb),nv ((pU F c (vi+1) s).np),iv ((pU F c (vi+1) s).st), .slice B ((pU F c (vi+1) s).l.length) m,nv (nV c.vars),nv (nT c.vars),nv F.flags.length]).toArray, .bool (Ei s none (c.vers.take (vi+1))).isSome, .bool true]∧Γ'=[all (F.kids eR),rows Ins.cells 116 4 B m ((pU F c (vi+1) s).l)]∧Ku F.pure∧F.comps[oi]?=some c∧vi<c.vers.length):=by
 refine Am func9 ntmps9 fun w0=>?_
 refine Js (To.g (Jbo fun b2=>?_))
 refine Jbo fun b3=>?_
 refine Jal fun b4=>?_
 refine Jz 7 ?_
 refine Jcf [3] (NB p hp) ?_
 rintro _ _ ⟨F,rfl,rfl,hG⟩
 refine Jal fun b7=>?_
 refine Jz 4 ?_
 have hX:=uG hG
 have hFc1:=hX.comps1
 have hFc:=hX.comps
 have hFf:=hX.flags
 refine Jz 3 ?_
 refine Jr (Fv rfl rfl underlying5 underlying3 (IntWalk.i64_in _ om)) ?_
 refine Jz 3 ?_
 refine Jr (Ke (a:=a1) (b:=F.comps.length) rfl rfl rfl om) ?_
 refine Jz 4 ?_
 refine To.nm ?_
 obtain⟨oi,hoi⟩:∃z0,z0=(a1%F.comps.length):=⟨_,rfl⟩
 rw[←hoi]
 have hoi:oi<F.comps.length:=by rw[hoi];exact Nat.mod_lt _ om
 obtain⟨c,hc⟩:=exg F.comps oi om
 have hcg:=hX.comp c (mog hc)
 have hcv1:=hcg.vers1
 have hcv2:=hcg.vers2
 have hB:=(TH hG).each c (mog hc)
 obtain⟨hn1,hn3⟩:=YO hG hc
 refine To.one 1 rfl (ros Jl F.Ac F.comps) rfl (ND F) (Jz 6 ?_)
 refine Jal fun b9=>?_
 refine Jz 4 ?_
 have hm2:a2%c.vers.length<c.vers.length:=Nat.mod_lt _ om
 refine Jz 3 ?_
 refine Jr (Fv rfl rfl underlying5 underlying3 (IntWalk.i64_in _ om)) ?_
 refine Jz 3 ?_
 refine Jr (Ke (a:=a2) (b:=c.vers.length) rfl rfl rfl om) ?_
 refine Jr (Cr (v':=nv (a2%c.vers.length+1)) (congrArg iv om) (Hl rfl rfl rfl om)) ?_
 refine Jz 4 ?_
 refine To.nm ?_
 obtain⟨vi,hvi⟩:∃z0,z0=(a2%c.vers.length):=⟨_,rfl⟩
 rw[←hvi]
 have hvi:vi<c.vers.length:=by rw[hvi];exact Nat.mod_lt _ om
 refine Db 3 rfl (Cm.kids eR c) (c.lax eR) (fun z hz=>VI hc hz) (Db 4 rfl (Cm.kids eR c) (c.lax eR) (fun z hz=>VI hc hz) (Jz 2 ?_))
 refine Jcf [0] (qX c hB.2.1 hB.2.2) ?_
 rintro _ _ ⟨Ah,qh,rfl,rfl⟩
 refine Jz 7 ?_
 refine Jr (Fv rfl rfl underlying5 underlying3 (IntWalk.i64_in _ om)) ?_
 refine Jz 2 ?_
 refine Jr (Ke (a:=a3) (b:=((hnames (c.vers.map Vs.pure)).length)) rfl rfl rfl om) ?_
 refine Jz 4 ?_
 refine To.nm ?_
 obtain⟨ki,hki⟩:∃z0,z0=(a3%((hnames (c.vers.map Vs.pure)).length)):=⟨_,rfl⟩
 rw[←hki]
 have hki:ki<(hnames (c.vers.map Vs.pure)).length:=by rw[hki];exact Nat.mod_lt _ om
 obtain⟨s,hs⟩:∃z0,(hnames (c.vers.map Vs.pure))[ki]?=some z0:=⟨(hnames (c.vers.map Vs.pure))[ki]'om,gge _⟩
 refine Jfw [box b9 (cX c []) 97,rows aMb 9 1 Ah qh (hnames (c.vers.map Vs.pure))] [1,2,3,100,104,105,306,7,8,9,210,11511,12] (ocs (oca 2 rfl) (ocs (oca 0 rfl) (ocn _))) ?_
 refine Jz 6 ?_
 refine gQ rfl rfl rfl rfl .fc ((TD c hB.2.1 hB.2.2 (vi+1) s).mono (fun _ _ h=>h.1)) (by show owns (c.kids eR)++[]=[];rw[(c.lax eR).owns];rfl) (ocs (oca 1 rfl) (ocn _)) ?_
 refine Jz 3 ?_
 refine Fw.mk rfl rfl rfl rfl rfl (Mk.alloc rfl z40) ?_
 rintro _ _ ⟨b13,rfl,rfl⟩
 refine Fw.up rfl rfl rfl (Bl (i:=0) rfl rfl rfl r40 rfl rfl rfl (bta rfl)) (ocs (oca 3 rfl) (ocs (oca 1 rfl) (ocn _))) ?_
 refine Jz 4 ?_
 refine Db 6 rfl (F.kids eR) (Fl.lax eR F) (fun z hz=>hz) (Jz 2 ?_)
 refine Jcf [0] (xZ F hX.low) ?_
 rintro _ _ ⟨F',rfl,rfl,hCap,hpu⟩
 refine Jcf [0,10,10,10] (yP F' (by rw[hpu];exact hG) (uG (by rw[hpu];exact hG)) hCap) ?_
 rintro _ _ ⟨b,A,q,ps,rfl,rfl,hP⟩
 refine Jz 18 ?_
 obtain⟨c',hc',hcp⟩:=TW hpu hc
 have hU:=TV (v:=vi+1) (s:=s) hpu hcp
 refine Jz 5 ?_
 refine Jqf (OC b A q hP (by rw[hpu];exact hG) hc' (by rw[aCg hcp];exact hs) (vi+1)) (by show owns (pgk b A q ps)++[]=[];rw[(TR b A q ps).owns];rfl) (ocs (oca 0 rfl) (ocn _)) ?_
 rintro _ _ ⟨B,m,rfl,rfl⟩
 refine⟨rfl,?_⟩
 refine Jz 3 ?_
 refine Jal fun b17=>?_
 refine Jz 5 ?_
 rw[hU]
 rw[aCh (F:=F) (c:=c) (v:=vi+1) (s:=s) ⟨by omega,by omega⟩]
 refine Jz 8 ?_
 refine Jr (.bd (cF F [nv oi, .string ((Gz (Ei s none (c.vers.take (vi+1)))).name), .slice ((Gz (Ei s none (c.vers.take (vi+1)))).Ap) ((Gz (Ei s none (c.vers.take (vi+1)))).ps.length) ((Gz (Ei s none (c.vers.take (vi+1)))).qp), .slice ((Gz (Ei s none (c.vers.take (vi+1)))).Ab) ((Gz (Ei s none (c.vers.take (vi+1)))).body.length) ((Gz (Ei s none (c.vers.take (vi+1)))).qb),nv ((pU F c (vi+1) s).np),iv ((pU F c (vi+1) s).st), .slice B ((pU F c (vi+1) s).l.length) m,iv 0,iv 0,nv F.flags.length])) ?_
 refine Jal fun b19=>?_
 refine Jz 2 ?_
 refine Ot [(0, .agg (cL p []).toArray),(1, .agg #[.int .u8 ((a1:Nat):Int), .int .u8 ((a2:Nat):Int), .int .u8 ((a3:Nat):Int)]),(2,pv b2),(3,pv b3),(4,pv b4),(5, .bool false),(6, .bool false),(7,pv b7),(8,nv oi),(9,pv b9),(10,nv ((vi+1))),(11,vs Ah (hnames (c.vers.map Vs.pure)) qh),(12,nv ki),(13,pv b13),(14, .bool ((Ei s none (c.vers.take (vi+1))).isSome)),(15,pv b),(16,iv 0),(69, .bool false),(17,pv b17),(18, .bool ((Ei s none (c.vers.take (vi+1))).isSome)),(19,pv b19)] sb (Jz 3 ?_)
 refine To.one 6 rfl (ros Oj c.Av c.vars) rfl (TE c) (Jz 8 ?_)
 refine Cw (fun u g mz ρ Γ=>∃(j:Nat),ρ=[u 4,u 14,u 18,u 19,u 88,u 89,(90,nv j)]∧Γ=[g 12,box b19 (cF F [nv oi, .string ((Gz (Ei s none (c.vers.take (vi+1)))).name), .slice ((Gz (Ei s none (c.vers.take (vi+1)))).Ap) ((Gz (Ei s none (c.vers.take (vi+1)))).ps.length) ((Gz (Ei s none (c.vers.take (vi+1)))).qp), .slice ((Gz (Ei s none (c.vers.take (vi+1)))).Ab) ((Gz (Ei s none (c.vers.take (vi+1)))).body.length) ((Gz (Ei s none (c.vers.take (vi+1)))).qb),nv ((pU F c (vi+1) s).np),iv ((pU F c (vi+1) s).st), .slice B ((pU F c (vi+1) s).l.length) m,nv (nV (c.vars.take j)),nv (nT (c.vars.take j)),nv F.flags.length]) 45,g 0,g 3,g 11]∧mz=c.vars.length-j∧(j≤c.vars.length)) ⟨⟨0,rfl,rfl,rfl,(aEw _)⟩,sb⟩ ?_
 rintro mz _ _ ⟨j,rfl,rfl,rfl,hj⟩
 refine Jz 6 ?_
 refine Jcp rfl ?_ ?_<;>intro k91
 obtain⟨y,hy⟩:=exg c.vars j om
 have hcl:=hB.1
 have hf1:nT (c.vars.take j)≤j:=aGd (List.length_filter_le _ _) (by rw[aEe];omega)
 have hf2:nV (c.vars.take j)≤j:=aGd (List.length_filter_le _ _) (by rw[aEe];omega)
 refine Jz 8 ?_
 refine Jal fun b21=>?_
 refine Jz 10 ?_
 refine Jcp rfl ?_ ?_<;>intro k96
 have hty:y.ty=3:=om
 refine Jz 14 ?_
 refine Du (Jas [box b4 [.string bE,nz,nz,nz,iv 0, .string bE,nz,nz,iv 0,iv 0,nz,iv 0,iv 0,iv 0] 45,box b19 (cF F [nv oi, .string ((Gz (Ei s none (c.vers.take (vi+1)))).name), .slice ((Gz (Ei s none (c.vers.take (vi+1)))).Ap) ((Gz (Ei s none (c.vers.take (vi+1)))).ps.length) ((Gz (Ei s none (c.vers.take (vi+1)))).qp), .slice ((Gz (Ei s none (c.vers.take (vi+1)))).Ab) ((Gz (Ei s none (c.vers.take (vi+1)))).body.length) ((Gz (Ei s none (c.vers.take (vi+1)))).qb),nv ((pU F c (vi+1) s).np),iv ((pU F c (vi+1) s).st), .slice B ((pU F c (vi+1) s).l.length) m,nv (nV (c.vars.take (j+1))),nv (nT (c.vars.take (j+1))),nv F.flags.length]) 45,ros Oj c.Av c.vars,rows Ins.cells 116 4 B m ((pU F c (vi+1) s).l),all (F.kids eR)] (by rw[CK hy,CL hy,aEh hty,aEh hty];rfl) (Hu ⟨⟨j+1,rfl,rfl,rfl,om⟩,sb⟩))
 have hty:¬y.ty=3:=om
 refine Jz 14 ?_
 refine Du (Jas [box b4 [.string bE,nz,nz,nz,iv 0, .string bE,nz,nz,iv 0,iv 0,nz,iv 0,iv 0,iv 0] 45,box b19 (cF F [nv oi, .string ((Gz (Ei s none (c.vers.take (vi+1)))).name), .slice ((Gz (Ei s none (c.vers.take (vi+1)))).Ap) ((Gz (Ei s none (c.vers.take (vi+1)))).ps.length) ((Gz (Ei s none (c.vers.take (vi+1)))).qp), .slice ((Gz (Ei s none (c.vers.take (vi+1)))).Ab) ((Gz (Ei s none (c.vers.take (vi+1)))).body.length) ((Gz (Ei s none (c.vers.take (vi+1)))).qb),nv ((pU F c (vi+1) s).np),iv ((pU F c (vi+1) s).st), .slice B ((pU F c (vi+1) s).l.length) m,nv (nV (c.vars.take (j+1))),nv (nT (c.vars.take (j+1))),nv F.flags.length]) 45,ros Oj c.Av c.vars,rows Ins.cells 116 4 B m ((pU F c (vi+1) s).l),all (F.kids eR)] (by rw[CK hy,CL hy,aEa hty,aEa hty];rfl) (Hu ⟨⟨j+1,rfl,rfl,rfl,om⟩,sb⟩))
 refine Jz 11 ?_
 refine Jr (Cr (v':= .bool true) (congrArg Value.bool (beq_self_eq_true _)) (PY rfl underlying4 rfl rfl)) ?_
 refine Jz 6 ?_
 refine GX [4,3] rfl (.inl rfl) results9 rfl (i:=0) rfl r45 rfl rfl rfl ?_
 have hjl:c.vars.take j=c.vars:=aEm om
 rw[hjl]
 exact⟨F,c,oi,vi,s,B,m,rfl,rfl,hG,hc,hvi⟩
end Go.Proofs.YtlihklladkagpaaGreatDoor

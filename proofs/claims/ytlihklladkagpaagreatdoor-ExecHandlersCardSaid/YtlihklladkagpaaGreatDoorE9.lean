/- Own text. -/
import Derived.Test.YtlihklladkagpaaGreatDoorXk
set_option maxHeartbeats 12000000
set_option maxRecDepth 100000
set_option linter.unusedVariables false
set_option linter.unusedSimpArgs false
namespace Go.Proofs.YtlihklladkagpaaGreatDoor
open Go.Proofs.Tryz
open Go.RowKit Go.Flow Go.Mem Go.Sep Go.In
theorem UJ{a b:Sx}(h:a.val=b.val):d0G a.vars (a.tabs.map Tb.l) a.dk.l=d0G b.vars (b.tabs.map Tb.l) b.dk.l:=by
 unfold Sx.val at h
 simp only[Prod.mk.injEq]at h
 rw[h.1,h.2.1,h.2.2]
theorem lQ(p:Pl)(hp:p.Ok)(a1 a2 a3:Nat)(h1:a1<256)(h2:a2<256)(h3:a3<256)(w:Wx)(hw:w.ok)(hwf:w.flags<256):
    Dz 4 [.agg (cL p []).toArray, .agg #[.int .u8 ((a1:Nat):Int), .int .u8 ((a2:Nat):Int), .int .u8 ((a3:Nat):Int)], .agg (cW w).toArray] [all p.kids,glc,p10c,Kn,ros encI w.Av w.vars,ros Be w.At w.tabs,ros Be w.Ad w.disk,ros encI w.Aa w.args,ros Gw w.Af w.fail] (fun v _=>v= .bool true):=by
 refine Am func4 ntmps4 fun w0=>?_
 refine Js (To.g (Jbo fun b3=>?_))
 refine Jbo fun b4=>?_
 refine Jbo fun b5=>?_
 refine Jz 4 ?_
 refine Px 6 rfl rfl (Jz 3 ?_)
 refine Jcf [4,4,4,0] (TZ p hp a1 a2 a3 h1 h2 h3) ?_
 rintro _ _ ⟨F,c,oi,vi,s,B,m,rfl,rfl,hG,hc,hvi⟩
 refine Jz 4 ?_
 refine Jal fun b7=>?_
 refine Jz 7 ?_
 refine Jas [box b7 (cF F [nv oi, .string ((Gz (Ei s none (c.vers.take (vi+1)))).name), .slice ((Gz (Ei s none (c.vers.take (vi+1)))).Ap) ((Gz (Ei s none (c.vers.take (vi+1)))).ps.length) ((Gz (Ei s none (c.vers.take (vi+1)))).qp), .slice ((Gz (Ei s none (c.vers.take (vi+1)))).Ab) ((Gz (Ei s none (c.vers.take (vi+1)))).body.length) ((Gz (Ei s none (c.vers.take (vi+1)))).qb),nv ((pU F c (vi+1) s).np),iv ((pU F c (vi+1) s).st), .slice B ((pU F c (vi+1) s).l.length) m,nv (nV c.vars),nv (nT c.vars),nv F.flags.length]) 45,all (F.kids eR),rows Ins.cells 116 4 B m ((pU F c (vi+1) s).l),box b5 (cW w) 31,box b4 [.int .u8 ((a1:Nat):Int), .int .u8 ((a2:Nat):Int), .int .u8 ((a3:Nat):Int)] 27,box b3 (cL p []) 25,Kn,ros encI w.Av w.vars,ros Be w.At w.tabs,ros Be w.Ad w.disk,ros encI w.Aa w.args,ros Gw w.Af w.fail] rfl ?_
 obtain⟨U,hU⟩:∃z0,z0=(pU F c (vi+1) s):=⟨_,rfl⟩
 rw[←hU]
 refine Jas [box b7 (cF F [nv oi, .string ((Gz (Ei s none (c.vers.take (vi+1)))).name), .slice ((Gz (Ei s none (c.vers.take (vi+1)))).Ap) ((Gz (Ei s none (c.vers.take (vi+1)))).ps.length) ((Gz (Ei s none (c.vers.take (vi+1)))).qp), .slice ((Gz (Ei s none (c.vers.take (vi+1)))).Ab) ((Gz (Ei s none (c.vers.take (vi+1)))).body.length) ((Gz (Ei s none (c.vers.take (vi+1)))).qb),nv U.np,iv U.st,vs B U.l m,nv (nV c.vars),nv (nT c.vars),nv F.flags.length]) 45,all (F.kids eR),rows Ins.cells 116 4 B m U.l,box b5 (cW w) 31,box b4 [.int .u8 ((a1:Nat):Int), .int .u8 ((a2:Nat):Int), .int .u8 ((a3:Nat):Int)] 27,box b3 (cL p []) 25,Kn,ros encI w.Av w.vars,ros Be w.At w.tabs,ros Be w.Ad w.disk,ros encI w.Aa w.args,ros Gw w.Af w.fail] rfl ?_
 obtain⟨hd,hhd⟩:∃z0,z0=(Gz (Ei s none (c.vers.take (vi+1)))):=⟨_,rfl⟩
 rw[←hhd]
 obtain⟨is,his⟩:∃z0,z0=(Ei s none (c.vers.take (vi+1))).isSome:=⟨_,rfl⟩
 rw[←his]
 refine To.g (Jvf (vH) rfl (ocs (oca 6 rfl) (ocn _)) ?_)
 refine Jz 11 ?_
 refine Ed rfl ?_ ?_<;>intro k32
 refine Js (To.g (Jvf (vH) rfl (ocs (oca 6 rfl) (ocn _)) ?_))
 refine Jz 8 ?_
 refine Fy (Gu (Jk (Kt (Xp (Lj (Iu (Er (Dl (Cu (Df (Du (Je1 results4 ?_))))))))))))
 rfl
 refine Jz 3 ?_
 have hsk:aCi U:=by rw[hU];exact aCj hG hc ⟨by omega,by omega⟩ (by rw[←his];simpa using k32)
 have hskf:∀i∈U.l,Fq i (nV c.vars) (nT c.vars) F.flags.length=true:=by rw[hU];exact YQ hG hc ⟨by omega,by omega⟩ (by rw[←his];simpa using k32)
 obtain⟨hnv,hnt⟩:=nVT hG hc
 have hnf:=(uG hG).flags
 have hnp:=hsk.np
 refine Jz 11 ?_
 refine Jcf [7,7,7,7,7] (QZ w hw hwf (nV c.vars) (nT c.vars) U.np F.flags.length om om om om) ?_
 rintro _ _ ⟨a,b,Ff,qf,Fl,Ap,qp,P,Gp,qg,G,rfl,rfl,hva,hvb,hFl,hP,hG2,hcaps,hcapd⟩
 refine Jz 5 ?_
 refine Jal fun b10=>?_
 refine Jal fun b11=>?_
 refine Jal fun b12=>?_
 refine Jal fun b13=>?_
 refine Jz 7 ?_
 refine Md (Cq (Nz (Cq (JF (Cq (DX (Cq (Su (Cq (zM (Cq (rX (Cq (Sv (Cq ?_)))))))))))))))
 have hga:=vS hva om
 have hgb:=vS hvb om
 have hlv:b.vars.length=a.vars.length:=by rw[hga.1,hgb.1]
 have hlt2:b.tabs.length=a.tabs.length:=by rw[hga.2.1,hgb.2.1]
 have hab:a.val=b.val:=hva.trans hvb.symm
 have hdsk:0≤((w.before:Nat):Int)∧((w.before:Nat):Int)≤1000000000:=by have:=hw.before;omega
 have hul:=hsk.len
 have hv1:=hga.1
 have hv2:=hga.2.1
 have hPl:P.length=U.np:=by rw[hP,eZ]
 have hGl:G.length=F.flags.length:=by rw[hG2,mP]
 have hpr:(P.length:Int)=((U.np:Nat):Int):=by rw[hPl]
 have href:∀x∈U.l,Fq x a.vars.length a.tabs.length G.length=true:=by rw[hv1,hv2,hGl];exact hskf
 refine Px 0 rfl rfl (Px 4 rfl rfl (Px 4 rfl rfl (Px 4 rfl rfl (Jz 2 ?_))))
 refine Jr (Ij (i:=20) (us:=[nv U.np,iv U.st,vs B U.l m]) rfl rfl r43 rfl (Fh (n:=3) rfl) rfl) ?_
 refine Jz 2 ?_
 refine Jcf [3,10,9,13,13,2,1,0,17] (vG ((U.np:Nat):Int) U.st B m U.l a (⟨Ap,qp,P,w.now,Gp,qg,G,((w.before:Nat):Int),Ff,qf,Fl⟩:Cl) hsk.ver om (by rw[hPl]) href ⟨by omega,by omega⟩ (by show Fl.length≤12;omega) hdsk hga.2.2.1 hga.2.2.2 hcaps hcapd) ?_
 rintro _ _ ⟨d,rfl,rfl,hrun,_⟩
 refine Jz 3 ?_
 refine Jal fun b14=>?_
 refine Jz 5 ?_
 have hsmall:=IK (c:=(⟨Ap,qp,P,w.now,Gp,qg,G,((w.before:Nat):Int),Ff,qf,Fl⟩:Cl)) (d:=d) om om hsk.ver hpr href (by show Fl.length≤12;omega) hdsk hga hrun
 refine Jfw [box b14 [vs d.Av d.vars d.qv,vs d.At d.tabs d.qt,vs d.dk.A d.dk.l d.dk.q,vs d.Ae d.effs d.qe,iv d.cost] 70,box b7 (cF F [nv oi, .string (hd.name),vs hd.Ap hd.ps hd.qp,vs hd.Ab hd.body hd.qb,nv U.np,iv U.st,vs B U.l m,nv (nV c.vars),nv (nT c.vars),nv F.flags.length]) 45,box b11 [vs b.Av b.vars b.qv,vs b.At b.tabs b.qt,vs b.dk.A b.dk.l b.dk.q] 60,box b13 [vs Ap P qp,iv w.now,vs Gp G qg,nv w.before,vs Ff Fl qf] 65] [0,1,2,3,4,5,7,8,506,509,310,11,12] (ocs (oca 0 rfl) (ocs (oca 19 rfl) (ocs (oca 15 rfl) (ocs (oca 13 rfl) (ocn _))))) ?_
 refine Jz 5 ?_
 refine Fw.f rfl (Ij (i:=1) (us:=[nv U.np,iv U.st,vs B U.l m]) rfl rfl r43 rfl (Fh (n:=3) rfl) rfl) ?_
 refine Jz 2 ?_
 refine sD [7] rfl rfl rfl rfl .fc rfl (IJ ((U.np:Nat):Int) U.st B m U.l om hsk.ops) ?_
 rintro _ _ ⟨Bi,qi,rfl,rfl⟩
 refine⟨ocs (oca 1 rfl) (ocs (oca 19 rfl) (ocs (oca 15 rfl) (ocs (oca 13 rfl) (ocn _)))),?_⟩
 refine sD [0,11,10,14,14,9,8,7] rfl rfl rfl rfl .fc rfl (vQ (UG Bi qi ((U.np:Nat):Int) U.st U.l b (⟨Ap,qp,P,w.now,Gp,qg,G,((w.before:Nat):Int),Ff,qf,Fl⟩:Cl) hsk.ver om hpr (by rw[hlv,hlt2];exact href) om (by show Fl.length≤12;omega) hdsk hgb.2.2.1 hgb.2.2.2)) ?_
 rintro _ _ ⟨e,rfl,rfl,hre⟩
 refine⟨ocs (oca 6 rfl) (ocs (oca 17 rfl) (ocs (oca 15 rfl) (ocs (oca 13 rfl) (ocn _)))),?_⟩
 refine Fw.qf ((UI d e hsmall.1 hsmall.2.1 hsmall.2.2.1 hsmall.2.2.2).mono (R':=fun v _=>v= .bool true) (fun v _ h=>by rw[h];exact congrArg Value.bool (aEk (by rw[hrun,←hre,UJ hab])))) (ocs (Ht 7 rfl) (ocs (Ht 8 rfl) (ocs (oca 9 rfl) (ocs (oca 10 rfl) (ocs (Ht 11 rfl) (ocs (oca 12 rfl) (ocs (Ht 0 rfl) (ocs (Ht 1 rfl) (ocs (oca 2 rfl) (ocs (oca 3 rfl) (ocs (Ht 4 rfl) (ocs (oca 5 rfl) (ocn _))))))))))))) ?_
 refine Jz 5 ?_
 refine JJ (JI (JH (WE (WC (wI (iA (bI (Pz (Iw (Fy (Gu (Jk (Kt (Xp (Lj (Iu (Er (Dl (Cu (Df (Du (Je1 results4 ?_))))))))))))))))))))))
 rfl
end Go.Proofs.YtlihklladkagpaaGreatDoor

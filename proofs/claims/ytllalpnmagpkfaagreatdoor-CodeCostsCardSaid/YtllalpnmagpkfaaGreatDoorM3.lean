/- CodeCosts: the walk of the law. Own text (walks printed by sx.py). -/
import Derived.Test.YtllalpnmagpkfaaGreatDoorM3p
import Derived.Test.YtllalpnmagpkfaaGreatDoorA19
set_option maxHeartbeats 8000000
set_option maxRecDepth 100000
set_option linter.unusedVariables false
set_option linter.unusedSimpArgs false
namespace Go.Proofs.YtllalpnmagpkfaaGreatDoor
open Go.Proofs.Tryz
open Go.RowKit Go.Flow Go.Mem Go.Sep Go.In
theorem costs_fn(p:Pl)(hp:p.Ok):
    Dz 7 [.agg (cL p []).toArray] [all p.kids,glc,p10c,tabC] (fun v _=>v= .bool true):=by
 refine Does.en func7 ntmps7 fun w0=>?_
 refine To.s (To.g (To.bo fun b1=>?_))
 refine To.z 6 ?_
 refine To.cV rfl rfl rfl (Ent.fn rfl rfl ca12) (awake_fn) rfl (oks_gl 2 rfl) (To.z 9 ?_)
 refine To.cl [1,1,1,1] rfl rfl rfl (Ent.fn rfl rfl ca13) rfl (made_fn p hp) ?_
 rintro _ _ ⟨F,F',b,A,q,ps,rfl,rfl,hG,hpu,hP⟩
 refine To.z 3 ?_
 refine To.al fun b4=>?_
 refine To.z 6 ?_
 have hG':GoodF F'.pure:=by rw[hpu];exact hG
 have hX:=goodX hG'
 have hXF:=goodX hG
 have hpsl:=hP.len
 refine To.z 2 ?_
 refine To.r (Rd.eqlNil rfl underlying27 rfl rfl) ?_
 refine To.z 8 ?_
 refine To.cl [2] rfl rfl rfl (Ent.fn rfl rfl ca22) rfl (qsyntax_fn F hXF.low) ?_
 rintro _ _ ⟨F2,rfl,rfl,hCap2,hpu2⟩
 refine To.al fun b5=>?_
 refine To.z 5 ?_
 have hpc:F2.comps.map Cm.pure=F'.comps.map Cm.pure:=congrArg (fun f:PF=>f.comps) (hpu2.trans hpu.symm)
 have hlen:F2.comps.length=F'.comps.length:=by have h:=congrArg List.length hpc;rw[List.length_map,List.length_map]at h;exact h
 have hFc:=hX.comps
 have hFc1:=hX.comps1
 refine To.one 1 rfl (ros encC F2.Ac F2.comps) rfl (Fl.comps_k (k:=eX)) (To.z 8 ?_)
 refine To.del5 (To.del3 (To.del1 (To.up1 (To.up2 (To.loopS (fun mz ρ Γ=>∃(i:Nat),ρ=[(3,pv b),(30,vs F2.Ac F2.comps F2.qc),(31,nv F2.comps.length),(32,nv i)]∧Γ=[all (pgk b A q ps),all (F2.kids eX),ros encC F2.Ac F2.comps]∧mz=F2.comps.length-i∧(i≤F2.comps.length)) (F2.comps.length-0) ⟨⟨0,rfl,rfl,rfl,(Nat.zero_le _)⟩,sb⟩ ?_)))))
 rintro mz _ _ ⟨i,rfl,rfl,rfl,hi⟩
 refine To.z 6 ?_
 refine To.cp rfl (fun k33=>?_) (fun k33=>?_)
 obtain⟨x,hx⟩:=exg F2.comps i om
 obtain⟨c,hc,hcx⟩:=map_at hpc hx
 obtain⟨pp,hpp,hpo⟩:=prog_at hP hc
 obtain⟨nn,hnm,hnn,hW⟩:=names_le hG' hc hpo
 have hnl:pp.names.length=nn:=by rw[hnm,nms_len]
 have hvx:x.vers.map Vs.pure=c.vers.map Vs.pure:=(congrArg PC.vers hcx).symm
 obtain⟨v1,hv1⟩:∃v1,c.vers[0]?=some v1:=⟨_,gge ((hX.comp c (mog hc)).vers1)⟩
 obtain⟨v0,hv0,hvv⟩:=map_at hvx.symm hv1
 have hvm1:=mog hv1
 have hvg:=(hX.comp c (mog hc)).ver v1 hvm1
 have hvl:v0.l.map Hd.pure=v1.l.map Hd.pure:=hvv
 have hxl:x.vers.length=c.vers.length:=by have h:=congrArg List.length hvx;rw[List.length_map,List.length_map]at h;exact h
 have hxl2:=(hX.comp c (mog hc)).vers2
 have hxl1:=(hX.comp c (mog hc)).vers1
 have hvn:v0.l.length=v1.l.length:=by have h:=congrArg List.length hvl;rw[List.length_map,List.length_map]at h;exact h
 have hvn3:=hvg.1
 refine To.z 9 ?_
 refine To.al fun b7=>?_
 refine To.z 8 ?_
 refine To.cQ rfl rfl rfl (Ent.fn rfl rfl ca27) (phand_fn b A q ps i pp hpp om om) (by show owns (pgk b A q ps)++[]=[];rw[(pgk_lax b A q ps).owns];rfl) (ocs (oca 1 rfl) (ocn _)) ?_
 rintro _ _ ⟨Bh,rh,rfl,rfl⟩
 refine⟨rfl,?_⟩
 refine To.z 4 ?_
 refine To.part 3 rfl (x.kids eX) (Cm.lax eX x) (Fl.comp_k hx) (To.one 0 rfl (ros encVs x.An x.vers) rfl (Cm.vers_k (k:=eX)) (To.z 11 ?_))
 refine To.part 1 rfl (v0.kids eX) (Vs.lax eX v0) (Cm.ver_k hv0) (To.one 0 rfl (ros encH v0.A v0.l) rfl (Vs.l_k (k:=eX)) (To.del5 (To.del3 (To.del2 (To.up1 (To.up5 (To.up5 (To.up5 (To.loopS (fun mz ρ Γ=>∃(m:Nat),ρ=[(3,pv b),(30,vs F2.Ac F2.comps F2.qc),(31,nv F2.comps.length),(32,nv i),(6,nv i),(8,vs Bh pp.names rh),(44,vs v0.A v0.l v0.q),(45,nv v0.l.length),(46,nv m)]∧Γ=[all (pgk b A q ps),all (F2.kids eX),ros encC F2.Ac F2.comps,all (v0.kids eX),ros encH v0.A v0.l,rows encZ 9 1 Bh rh pp.names]∧mz=v0.l.length-m∧(m≤v0.l.length)) (v0.l.length-0) ⟨⟨0,rfl,rfl,rfl,(Nat.zero_le _)⟩,sb⟩ ?_)))))))))
 rintro mz _ _ ⟨m,rfl,rfl,rfl,hm⟩
 refine To.z 6 ?_
 refine To.cp rfl (fun k47=>?_) (fun k47=>?_)
 obtain⟨y,hy⟩:=exg v0.l m om
 obtain⟨y1,hy1,hyy⟩:=map_at hvl hy
 obtain⟨hyn1,hmn⟩:=hW.each v1 hvm1 m y1 hy1
 have hyn:y.name=nm 104 m:=by rw[←hyn1];exact(congrArg PH.name hyy).symm
 have hyp:y1.ps.length=y.ps.length:=congrArg (fun z:PH=>z.ps.length) hyy
 have hyb:St.pL y1.body=St.pL y.body:=congrArg PH.body hyy
 have hym:=mog hy1
 have hg:=hvg.2 y1 hym
 have hbl:y.body.length=y1.body.length:=by have h:=congrArg List.length hyb;rw[St.pm,St.pm,List.length_map,List.length_map]at h;exact h.symm
 have hcl:=(good_code hG' hc hvm1 hym).len
 have hgp:=hg.ps
 have hgl:=hg.len
 refine To.z 8 ?_
 refine To.al fun b10=>?_
 refine To.z 11 ?_
 refine To.up6 (To.up6 (To.up6 (To.up6 (To.up6 (To.up6 (To.loopS (fun mz ρ Γ=>∃(k:Nat),ρ=[(3,pv b),(30,vs F2.Ac F2.comps F2.qc),(31,nv F2.comps.length),(32,nv i),(6,nv i),(8,vs Bh pp.names rh),(44,vs v0.A v0.l v0.q),(45,nv v0.l.length),(46,nv m),(10,pv b10),(50,vs Bh pp.names rh),(51,nv pp.names.length),(52,nv k)]∧Γ=[all (pgk b A q ps),all (F2.kids eX),ros encC F2.Ac F2.comps,all (v0.kids eX),ros encH v0.A v0.l,rows encZ 9 1 Bh rh pp.names,box b10 [.string y.name,vs y.Ap y.ps y.qp,vs y.Ab y.body y.qb] 77]∧mz=pp.names.length-k∧(k≤pp.names.length)) (pp.names.length-0) ⟨⟨0,rfl,rfl,rfl,(Nat.zero_le _)⟩,sb⟩ ?_))))))
 rintro mz _ _ ⟨k,rfl,rfl,rfl,hk⟩
 refine To.z 6 ?_
 refine To.cp rfl (fun k53=>?_) (fun k53=>?_)
 have hn:pp.names[k]?=some (nm 104 k):=by rw[hnm];exact nms_get om
 refine To.z 19 ?_
 refine To.r (Rd.neqZ rfl rfl rfl) ?_
 refine To.n (To.t (To.cp rfl (fun k60=>?_) (fun k60=>?_)))
 refine To.z 9 ?_
 refine To.agS (pp.names.length-(k+1)) om ⟨⟨k+1,rfl,rfl,rfl,om⟩,sb⟩
 have hkm:k=m:=by
  have h:nm 104 k=y.name:=Decidable.byContradiction fun h=>k60 h
  rw[hyn]at h
  exact(nm_inj (by decide) (by decide) om om h).2
 refine To.z 7 ?_
 refine To.cQ rfl rfl rfl (Ent.fn rfl rfl ca15) (punit1_at b A q hP hG' hc hv1 (m:=k) (by rw[hkm];exact hy1) (by rw[←hpo.names];exact hn)) (by show owns (pgk b A q ps)++[]=[];rw[(pgk_lax b A q ps).owns];rfl) (ocs (oca 0 rfl) (ocn _)) ?_
 rintro _ _ ⟨Bu,ru,rfl,rfl⟩
 refine⟨rfl,?_⟩
 refine To.z 3 ?_
 refine To.al fun b13=>?_
 refine To.z 19 ?_
 refine To.up8 (To.up8 (To.up8 (To.up8 (To.up8 (To.up8 (To.up8 (To.loopS (fun mz ρ Γ=>∃(q1:Nat) (j:Nat),ρ=[(3,pv b),(30,vs F2.Ac F2.comps F2.qc),(31,nv F2.comps.length),(32,nv i),(6,nv i),(8,vs Bh pp.names rh),(44,vs v0.A v0.l v0.q),(45,nv v0.l.length),(46,nv m),(10,pv b10),(50,vs Bh pp.names rh),(51,nv pp.names.length),(52,nv k),(13,pv b13),(14, .bool true),(15,nv q1),(69,vs Bu (codeR F' c y1) ru),(70,nv ((codeR F' c y1).length)),(71,nv j)]∧Γ=[all (pgk b A q ps),all (F2.kids eX),ros encC F2.Ac F2.comps,all (v0.kids eX),ros encH v0.A v0.l,rows encZ 9 1 Bh rh pp.names,box b10 [.string y.name,vs y.Ap y.ps y.qp,vs y.Ab y.body y.qb] 77,box b13 [nv y1.ps.length, .int .i64 ((heightsV (codeR F' c y1)).1),vs Bu (codeR F' c y1) ru] 42,rows Ins.cells 109 4 Bu ru (codeR F' c y1)]∧mz=(codeR F' c y1).length-j∧(j≤(codeR F' c y1).length)∧(q1=costs ((codeR F' c y1).take j))) ((codeR F' c y1).length-0) ⟨⟨0,0,rfl,rfl,rfl,(Nat.zero_le _),rfl⟩,sb⟩ ?_)))))))
 rintro mz _ _ ⟨q1,j,rfl,rfl,rfl,hj,hq⟩
 refine To.z 6 ?_
 refine To.cp rfl (fun k72=>?_) (fun k72=>?_)
 obtain⟨z,hz⟩:∃z0,(codeR F' c y1)[j]?=some z0:=⟨_,gge om⟩
 have hqb:q1≤10000:=by
  have h:=costs_le ((codeR F' c y1).take j)
  rw[List.length_take]at h;omega
 refine To.z 8 ?_
 refine To.al fun b17=>?_
 refine To.z 10 ?_
 refine To.cp rfl (fun k77=>?_) (fun k77=>?_)
 refine To.z 12 ?_
 refine To.del0 (To.agS ((codeR F' c y1).length-(j+1)) om ⟨⟨q1+1,j+1,rfl,rfl,rfl,om,(by rw[hq,costs_take hz,if_pos om])⟩,sb⟩)
 refine To.z 8 ?_
 refine To.del0 (To.agS ((codeR F' c y1).length-(j+1)) om ⟨⟨q1,j+1,rfl,rfl,rfl,om,(by rw[hq,costs_take hz,if_neg om];rfl)⟩,sb⟩)
 refine To.z 6 ?_
 have hqe:q1=PS.cntL (St.pL y.body):=by rw[hq,List.take_of_length_le om,code_cost hG' hc hvm1 hym,hyb]
 refine To.part 3 rfl (y.kids eX) (Hd.lax eX y) (Vs.hd_k hy) (To.part 0 rfl (lsG encX encT y.Ab y.body) (lsG_lax _ _ _ _) (Hd.body_k (k:=eX)) (To.z 7 ?_))
 refine To.cQ rfl rfl rfl (Ent.fn rfl rfl ca29) (qcnt_fn y.body y.Ab y.qb om (by rw[←hyb];exact hg.low) (by rw[←hyb];exact Nat.le_trans hg.cnt (by decide))) (by show owns (lsG encX encT y.Ab y.body)++[]=[];rw[(lsG_lax encX encT y.Ab y.body).owns];rfl) (ocs (oca 0 rfl) (ocn _)) ?_
 rintro _ _ ⟨rfl,rfl⟩
 refine⟨rfl,?_⟩
 refine To.r (Rd.as (v':= .bool false) (congrArg Value.bool (decide_eq_false om)) (Rd.neq rfl rfl rfl)) ?_
 refine To.z 7 ?_
 refine To.r (Rd.as (v':= .bool false) (congrArg Value.bool (decide_eq_false om)) (Rd.neq rfl rfl rfl)) ?_
 refine To.z 12 ?_
 refine To.del10 (To.del9 (To.del1 (To.del0 (To.agS (pp.names.length-(k+1)) om ⟨⟨k+1,rfl,rfl,rfl,om⟩,sb⟩))))
 refine To.z 11 ?_
 refine To.del6 (To.agS (v0.l.length-(m+1)) om ⟨⟨m+1,rfl,rfl,rfl,om⟩,sb⟩)
 refine To.z 11 ?_
 refine To.del5 (To.del4 (To.del3 (To.agS (F2.comps.length-(i+1)) om ⟨⟨i+1,rfl,rfl,rfl,om⟩,sb⟩)))
 refine To.z 11 ?_
 refine To.del2 (To.del1 (To.del0 (To.e1 results7 ?_)))
 rfl
end Go.Proofs.YtllalpnmagpkfaaGreatDoor

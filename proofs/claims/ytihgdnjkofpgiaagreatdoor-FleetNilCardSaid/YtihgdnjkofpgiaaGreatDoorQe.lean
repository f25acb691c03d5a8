/- Merged out of Q8p, Q8 by merge.py. Own text. -/
import Derived.Test.YtihgdnjkofpgiaaGreatDoorQd
import Derived.Test.YtihgdnjkofpgiaaGreatDoorQb
set_option linter.unusedVariables false
set_option linter.unusedSimpArgs false
set_option maxHeartbeats 2000000
set_option maxRecDepth 100000
namespace Go.Proofs.YtihgdnjkofpgiaaGreatDoor
open Go.RowKit Go.Flow Go.Mem Go.Sep Go.In
structure Hd.Good(h:Hd):Prop where
 nm:isNm h.name
 ps:h.ps.length≤2
 psn:∀p∈h.ps,isNm p
 len:h.body.length≤12
 low:PS.lowL (St.pL h.body)
 fine:PS.fineL (St.pL h.body)
 cnt:PS.cntL (St.pL h.body)≤12
 dep:PS.sdepL (St.pL h.body)≤4
def okVr(v:Vr):Prop:=isNm v.name∧(v.ty=1∧0≤v.init∧v.init≤3∨(v.ty=2∨v.ty=3)∧v.init=0)
structure Cm.Good(c:Cm):Prop where
 nm:isNm c.name
 vars:c.vars.length≤5
 var:∀v∈c.vars,okVr v
 vers1:1≤c.vers.length
 vers2:c.vers.length≤2
 ver:∀v∈c.vers,v.l.length≤3∧∀h∈v.l,h.Good
structure GoodX(F:Fl):Prop where
 nm:isNm F.name
 flags:F.flags.length≤2
 flag:∀x∈F.flags,isNm x.name
 links:F.links.length≤9
 link:∀x∈F.links,isNm x.src∧isNm x.dst∧1≤x.lat∧x.lat≤3
 comps1:1≤F.comps.length
 comps:F.comps.length≤3
 comp:∀c∈F.comps,c.Good
theorem GoodX.low{F:Fl}(h:GoodX F):LowF F:=⟨h.flags,h.links,h.comps,fun c hc=>⟨(h.comp c hc).vars,fun v hv=>by
 rcases((h.comp c hc).var v hv).2 with h1|h1<;>omega⟩,fun c hc=>⟨(h.comp c hc).vers2,fun v hv=>⟨((h.comp c hc).ver v hv).1,fun x hx=>by
  have g:=((h.comp c hc).ver v hv).2 x hx
  exact⟨g.ps,g.len,g.low⟩⟩⟩⟩
theorem Rd.lenMap{P:Program}{o:Oper}{ρ:Slots}{Γ:List Chunk}{x:Operand}{κ β:Type} [DecidableEq κ]{ek:κ→Value}{evl:β→Value}{b i:Nat}{m:List (κ×β)}{t K E:TypeId}(ho:o.op= .call {callee:= .builtin .len,args:=#[x],argTypes:=#[t]})(ht:P.underlying t=some (.map K E))(hx:ev ρ x=some (.map (some b)))(hi:Γ[i]?=some (mapc ek evl b m)):Rd P o ρ Γ (nv m.length):=fun a w ha hs=>by
 obtain⟨es,clock,h1,h2⟩:=hs _ (mog hi)
 have h3:es.size=m.length:=by
  have:=congrArg List.length h2
  unfold entries pairs at this
  rwa[List.length_map,List.length_map,Array.length_toList]at this
 unfold execOp
 simp[ho,resolve,invoke,builtin,ha.eval hx,Builtin.len_,run_underlying ht,getObj,Sem.run,h1,h3,goInt]
theorem aset_len{κ β:Type} [DecidableEq κ](x:κ)(v:β):∀m:List (κ×β),(aset m x v).length≤m.length+1
 |[]=>Nat.le_refl _
 | p::r=>by
   have:=aset_len x v r
   unfold aset
   split
   ·exact Nat.le_succ _
   ·show(aset r x v).length+1≤r.length+1+1;omega
theorem qsmallH_fn(h:Hd)(hg:h.Good):
    Does Tryz.prog 115 [.agg (encH h).toArray] [all (h.kids eX),glc] (fun v Γ'=>v= .bool true∧Γ'=[]):=by
 refine Does.enter Tryz.func115 rfl Tryz.ntmps115 rfl (fun w0=>?_)
 refine To.s (To.g ?_)
 refine To.bo fun b1=>?_
 refine To.z 5 ?_
 refine To.part 1 rfl (lsG encX encT h.Ab h.body) (lsG_lax _ _ _ _) (Hd.body_k (k:=eX)) ?_
 refine To.z 4 ?_
 refine To.r (Rd.as (v':= .bool false) (congrArg Value.bool (decide_eq_false (by have:=hg.ps;omega))) (Rd.gtr rfl rfl rfl)) ?_
 refine To.z 3 ?_
 refine To.cQ rfl rfl rfl (Ent.fn rfl rfl ca168) (qcnt_fn h.body h.Ab h.qb hg.len hg.low (Nat.le_trans hg.cnt (by decide))) (by show owns (lsG encX encT h.Ab h.body)++[]=[];rw[(lsG_lax encX encT h.Ab h.body).owns];rfl) (ocs (oca 0 rfl) (ocn _)) ?_
 rintro _ _ ⟨rfl,rfl⟩
 refine⟨rfl,?_⟩
 refine To.r (Rd.as (v':= .bool false) (congrArg Value.bool (decide_eq_false (by have:=hg.cnt;omega))) (Rd.gtr rfl rfl rfl)) ?_
 refine To.z 4 ?_
 refine To.cQ rfl rfl rfl (Ent.fn rfl rfl ca169) (qsdep_fn h.body h.Ab h.qb hg.len hg.low (Nat.le_trans hg.dep (by decide))) (by show owns (lsG encX encT h.Ab h.body)++[]=[];rw[(lsG_lax encX encT h.Ab h.body).owns];rfl) (ocs (oca 0 rfl) (ocn _)) ?_
 rintro _ _ ⟨rfl,rfl⟩
 refine⟨rfl,?_⟩
 refine To.r (Rd.as (v':= .bool false) (congrArg Value.bool (decide_eq_false (by have:=hg.dep;omega))) (Rd.gtr rfl rfl rfl)) ?_
 refine To.z 10 ?_
 refine To.cQ rfl rfl rfl (Ent.fn rfl rfl ca118) (qesS_fn h.body h.Ab h.qb hg.len hg.low hg.fine) (by show owns (lsG encX encT h.Ab h.body)++(owns gl++[])=[];rw[(lsG_lax encX encT h.Ab h.body).owns];rfl) (ocs (oca 0 rfl) (ocs (oca 3 rfl) (ocn _))) ?_
 rintro _ _ ⟨rfl,rfl⟩
 refine⟨rfl,?_⟩
 refine To.z 4 ?_
 refine To.del3 (To.del2 (To.del1 (To.del0 (To.end1 (.inl rfl) Tryz.results115 rfl ?_))))
 exact⟨rfl,rfl⟩
theorem qnamedH_fn(h:Hd)(hg:h.Good):
    Does Tryz.prog 117 [.agg (encH h).toArray] [all (h.kids eX),glc] (fun v Γ'=>v= .bool true∧Γ'=[]):=by
 have hps2:=hg.ps
 refine Does.enter Tryz.func117 rfl Tryz.ntmps117 rfl (fun w0=>?_)
 refine To.s (To.g ?_)
 refine To.bo fun b1=>?_
 refine To.z 7 ?_
 refine To.cV rfl rfl rfl (Ent.fn rfl rfl ca116) (isname_fn hg.nm) rfl (oks_gl 2 rfl) ?_
 refine To.z 5 ?_
 refine To.part 1 rfl (lsG encX encT h.Ab h.body) (lsG_lax _ _ _ _) (Hd.body_k (k:=eX)) (To.one 2 rfl (ros encZ h.Ap h.ps) rfl (Hd.ps_k) ?_)
 refine To.z 8 ?_
 refine To.sub [(1,pv b1),(3, .bool true),(10, .slice h.Ap h.ps.length h.qp),(11,nv h.ps.length),(12,nv 0)] ⟨rfl,rfl,rfl,rfl,rfl,trivial⟩ ?_
 refine To.del3 (To.up2 ?_)
 refine To.loop (fun mz ρ Γ=>∃(k:Nat),ρ=[(1,pv b1),(3, .bool true),(10, .slice h.Ap h.ps.length h.qp),(11,nv h.ps.length),(12,nv k)]∧Γ=[box b1 [.string h.name, .slice h.Ap h.ps.length h.qp, .slice h.Ab h.body.length h.qb] 120,ros encZ h.Ap h.ps,all (lsG encX encT h.Ab h.body),glc]∧mz=h.ps.length-k∧(k≤h.ps.length)) (h.ps.length-0) ⟨0,rfl,rfl,rfl,(Nat.zero_le _)⟩ ?_
 rintro mz _ _ ⟨k,rfl,rfl,rfl,hk⟩
 refine To.z 6 ?_
 refine To.cp rfl (fun c13=>?_) (fun c13=>?_)
 obtain⟨p,hp⟩:∃z0,h.ps[k]?=some z0:=⟨h.ps[k]'(by omega),gge _⟩
 refine To.z 15 ?_
 refine To.cV rfl rfl rfl (Ent.fn rfl rfl ca116) (isname_fn (hg.psn p (mog hp))) rfl (oks_gl 3 rfl) ?_
 refine To.z 10 ?_
 refine To.sub [(1,pv b1),(3, .bool true),(10, .slice h.Ap h.ps.length h.qp),(11,nv h.ps.length),(12,nv ((k+1)))] ⟨rfl,rfl,rfl,rfl,rfl,trivial⟩ ?_
 refine To.ag (h.ps.length-(k+1)) (by omega) ⟨k+1,rfl,rfl,rfl,(by omega)⟩
 refine To.z 11 ?_
 refine To.cQ rfl rfl rfl (Ent.fn rfl rfl ca118) (qesN_fn h.body h.Ab h.qb hg.len hg.low hg.fine) (by show owns (lsG encX encT h.Ab h.body)++(owns gl++[])=[];rw[(lsG_lax encX encT h.Ab h.body).owns];rfl) (ocs (oca 2 rfl) (ocs (oca 3 rfl) (ocn _))) ?_
 rintro _ _ ⟨rfl,rfl⟩
 refine⟨rfl,?_⟩
 refine To.z 5 ?_
 refine To.del3 (To.del2 (To.del1 (To.del0 (To.end1 (.inl rfl) Tryz.results117 rfl ?_))))
 exact⟨rfl,rfl⟩
theorem qformedH_fn(h:Hd)(hg:h.Good):
    Does Tryz.prog 121 [.agg (encH h).toArray] [all (h.kids eX),glc] (fun v Γ'=>v= .bool true∧Γ'=[]):=by
 refine Does.enter Tryz.func121 rfl Tryz.ntmps121 rfl (fun w0=>?_)
 refine To.s (To.g ?_)
 refine To.bo fun b1=>?_
 refine To.z 4 ?_
 refine To.part 1 rfl (lsG encX encT h.Ab h.body) (lsG_lax _ _ _ _) (Hd.body_k (k:=eX)) ?_
 refine To.z 3 ?_
 refine To.cQ rfl rfl rfl (Ent.fn rfl rfl ca118) (qesF_fn h.body h.Ab h.qb hg.len hg.low hg.fine) (by show owns (lsG encX encT h.Ab h.body)++(owns gl++[])=[];rw[(lsG_lax encX encT h.Ab h.body).owns];rfl) (ocs (oca 0 rfl) (ocs (oca 3 rfl) (ocn _))) ?_
 rintro _ _ ⟨rfl,rfl⟩
 refine⟨rfl,?_⟩
 refine To.z 4 ?_
 refine To.del3 (To.del2 (To.del1 (To.del0 (To.end1 (.inl rfl) Tryz.results121 rfl ?_))))
 exact⟨rfl,rfl⟩
theorem qehS_fn(F:Fl)(hF:GoodX F):
    Does Tryz.prog 114 [.agg #[.string F.name, .slice F.Af F.flags.length F.qf, .slice F.Al F.links.length F.ql, .slice F.Ac F.comps.length F.qc], .func (.func 115) #[] #[]] [all (F.kids eX),glc] (fun v Γ'=>v= .bool true∧Γ'=[]):=by
 have hFc:=hF.comps
 refine Does.enter Tryz.func114 rfl Tryz.ntmps114 rfl (fun w0=>?_)
 refine To.s (To.g ?_)
 refine To.bo fun b2=>?_
 refine To.z 5 ?_
 refine To.one 1 rfl (ros encC F.Ac F.comps) rfl (Fl.comps_k (k:=eX)) ?_
 refine To.z 8 ?_
 refine To.sub [(1, .func (.func 115) #[] #[]),(12, .slice F.Ac F.comps.length F.qc),(13,nv F.comps.length),(14,nv 0)] ⟨rfl,rfl,rfl,rfl,trivial⟩ ?_
 refine To.del1 ?_
 refine To.loop (fun mz ρ Γ=>∃(k:Nat),ρ=[(1, .func (.func 115) #[] #[]),(12, .slice F.Ac F.comps.length F.qc),(13,nv F.comps.length),(14,nv k)]∧Γ=[ros encC F.Ac F.comps,all (F.kids eX),glc]∧mz=F.comps.length-k∧(k≤F.comps.length)) (F.comps.length-0) ⟨0,rfl,rfl,rfl,(Nat.zero_le _)⟩ ?_
 rintro mz _ _ ⟨k,rfl,rfl,rfl,hk⟩
 refine To.z 6 ?_
 refine To.cp rfl (fun c15=>?_) (fun c15=>?_)
 obtain⟨c,hc⟩:∃z0,F.comps[k]?=some z0:=⟨F.comps[k]'(by omega),gge _⟩
 have hcg:=hF.comp c (mog hc)
 have hcv:=hcg.vers2
 have hcv1:=hcg.vers1
 have hcr:=hcg.vars
 refine To.z 8 ?_
 refine To.al fun b6=>?_
 refine To.z 4 ?_
 refine To.part 2 rfl (c.kids eX) (Cm.lax eX c) (Fl.comp_k hc) (To.one 0 rfl (ros encVs c.An c.vers) rfl (Cm.vers_k (k:=eX)) ?_)
 refine To.z 8 ?_
 refine To.sub [(1, .func (.func 115) #[] #[]),(12, .slice F.Ac F.comps.length F.qc),(13,nv F.comps.length),(14,nv k),(19, .slice c.An c.vers.length c.qn),(20,nv c.vers.length),(21,nv 0)] ⟨rfl,rfl,rfl,rfl,rfl,rfl,rfl,trivial⟩ ?_
 refine To.del2 (To.up4 (To.up4 (To.up4 ?_)))
 refine To.loop (fun mz ρ Γ=>∃(j:Nat),ρ=[(1, .func (.func 115) #[] #[]),(12, .slice F.Ac F.comps.length F.qc),(13,nv F.comps.length),(14,nv k),(19, .slice c.An c.vers.length c.qn),(20,nv c.vers.length),(21,nv j)]∧Γ=[ros encC F.Ac F.comps,all (F.kids eX),glc,ros encVs c.An c.vers,all (c.kids eX)]∧mz=c.vers.length-j∧(j≤c.vers.length)) (c.vers.length-0) ⟨0,rfl,rfl,rfl,(Nat.zero_le _)⟩ ?_
 rintro mz _ _ ⟨j,rfl,rfl,rfl,hj⟩
 refine To.z 6 ?_
 refine To.cp rfl (fun c22=>?_) (fun c22=>?_)
 obtain⟨v,hv⟩:∃z0,c.vers[j]?=some z0:=⟨c.vers[j]'(by omega),gge _⟩
 have hvg:=hcg.ver v (mog hv)
 have hvl:=hvg.1
 refine To.z 8 ?_
 refine To.al fun b8=>?_
 refine To.z 4 ?_
 refine To.part 5 rfl (v.kids eX) (Vs.lax eX v) (Cm.ver_k hv) (To.one 0 rfl (ros encH v.A v.l) rfl (Vs.l_k (k:=eX)) ?_)
 refine To.z 8 ?_
 refine To.sub [(1, .func (.func 115) #[] #[]),(12, .slice F.Ac F.comps.length F.qc),(13,nv F.comps.length),(14,nv k),(19, .slice c.An c.vers.length c.qn),(20,nv c.vers.length),(21,nv j),(26, .slice v.A v.l.length v.q),(27,nv v.l.length),(28,nv 0)] ⟨rfl,rfl,rfl,rfl,rfl,rfl,rfl,rfl,rfl,rfl,trivial⟩ ?_
 refine To.del2 (To.up6 (To.up6 (To.up6 (To.up6 (To.up6 ?_)))))
 refine To.loop (fun mz ρ Γ=>∃(i:Nat),ρ=[(1, .func (.func 115) #[] #[]),(12, .slice F.Ac F.comps.length F.qc),(13,nv F.comps.length),(14,nv k),(19, .slice c.An c.vers.length c.qn),(20,nv c.vers.length),(21,nv j),(26, .slice v.A v.l.length v.q),(27,nv v.l.length),(28,nv i)]∧Γ=[ros encC F.Ac F.comps,all (F.kids eX),glc,ros encVs c.An c.vers,all (c.kids eX),ros encH v.A v.l,all (v.kids eX)]∧mz=v.l.length-i∧(i≤v.l.length)) (v.l.length-0) ⟨0,rfl,rfl,rfl,(Nat.zero_le _)⟩ ?_
 rintro mz _ _ ⟨i,rfl,rfl,rfl,hi⟩
 refine To.z 6 ?_
 refine To.cp rfl (fun c29=>?_) (fun c29=>?_)
 obtain⟨h,hh⟩:∃z0,v.l[i]?=some z0:=⟨v.l[i]'(by omega),gge _⟩
 have hg:=hvg.2 h (mog hh)
 refine To.z 8 ?_
 refine To.al fun b10=>?_
 refine To.z 4 ?_
 refine To.part 7 rfl (h.kids eX) (Hd.lax eX h) (Vs.hd_k hh) ?_
 refine To.z 3 ?_
 refine To.cQ rfl rfl rfl (Ent.func (first:=[]) (captured:=[]) rfl rfl rfl ca115) (qsmallH_fn h hg) (by show owns (h.kids eX)++(owns gl++[])=[];rw[(Hd.lax eX h).owns];rfl) (ocs (oca 0 rfl) (ocs (oca 4 rfl) (ocn _))) ?_
 rintro _ _ ⟨rfl,rfl⟩
 refine⟨rfl,?_⟩
 refine To.z 12 ?_
 refine To.sub [(1, .func (.func 115) #[] #[]),(12, .slice F.Ac F.comps.length F.qc),(13,nv F.comps.length),(14,nv k),(19, .slice c.An c.vers.length c.qn),(20,nv c.vers.length),(21,nv j),(26, .slice v.A v.l.length v.q),(27,nv v.l.length),(28,nv ((i+1)))] ⟨rfl,rfl,rfl,rfl,rfl,rfl,rfl,rfl,rfl,rfl,trivial⟩ ?_
 refine To.del1 (To.del0 ?_)
 refine To.ag (v.l.length-(i+1)) (by omega) ⟨i+1,rfl,rfl,rfl,(by omega)⟩
 refine To.z 11 ?_
 refine To.sub [(1, .func (.func 115) #[] #[]),(12, .slice F.Ac F.comps.length F.qc),(13,nv F.comps.length),(14,nv k),(19, .slice c.An c.vers.length c.qn),(20,nv c.vers.length),(21,nv ((j+1)))] ⟨rfl,rfl,rfl,rfl,rfl,rfl,rfl,trivial⟩ ?_
 refine To.del6 (To.del5 ?_)
 refine To.ag (c.vers.length-(j+1)) (by omega) ⟨j+1,rfl,rfl,rfl,(by omega)⟩
 refine To.z 11 ?_
 refine To.sub [(1, .func (.func 115) #[] #[]),(12, .slice F.Ac F.comps.length F.qc),(13,nv F.comps.length),(14,nv ((k+1)))] ⟨rfl,rfl,rfl,rfl,trivial⟩ ?_
 refine To.del4 (To.del3 ?_)
 refine To.ag (F.comps.length-(k+1)) (by omega) ⟨k+1,rfl,rfl,rfl,(by omega)⟩
 refine To.z 11 ?_
 refine To.del2 (To.del1 (To.del0 (To.end1 (.inl rfl) Tryz.results114 rfl ?_)))
 exact⟨rfl,rfl⟩
theorem qehN_fn(F:Fl)(hF:GoodX F):
    Does Tryz.prog 114 [.agg #[.string F.name, .slice F.Af F.flags.length F.qf, .slice F.Al F.links.length F.ql, .slice F.Ac F.comps.length F.qc], .func (.func 117) #[] #[]] [all (F.kids eX),glc] (fun v Γ'=>v= .bool true∧Γ'=[]):=by
 have hFc:=hF.comps
 refine Does.enter Tryz.func114 rfl Tryz.ntmps114 rfl (fun w0=>?_)
 refine To.s (To.g ?_)
 refine To.bo fun b2=>?_
 refine To.z 5 ?_
 refine To.one 1 rfl (ros encC F.Ac F.comps) rfl (Fl.comps_k (k:=eX)) ?_
 refine To.z 8 ?_
 refine To.sub [(1, .func (.func 117) #[] #[]),(12, .slice F.Ac F.comps.length F.qc),(13,nv F.comps.length),(14,nv 0)] ⟨rfl,rfl,rfl,rfl,trivial⟩ ?_
 refine To.del1 ?_
 refine To.loop (fun mz ρ Γ=>∃(k:Nat),ρ=[(1, .func (.func 117) #[] #[]),(12, .slice F.Ac F.comps.length F.qc),(13,nv F.comps.length),(14,nv k)]∧Γ=[ros encC F.Ac F.comps,all (F.kids eX),glc]∧mz=F.comps.length-k∧(k≤F.comps.length)) (F.comps.length-0) ⟨0,rfl,rfl,rfl,(Nat.zero_le _)⟩ ?_
 rintro mz _ _ ⟨k,rfl,rfl,rfl,hk⟩
 refine To.z 6 ?_
 refine To.cp rfl (fun c15=>?_) (fun c15=>?_)
 obtain⟨c,hc⟩:∃z0,F.comps[k]?=some z0:=⟨F.comps[k]'(by omega),gge _⟩
 have hcg:=hF.comp c (mog hc)
 have hcv:=hcg.vers2
 have hcv1:=hcg.vers1
 have hcr:=hcg.vars
 refine To.z 8 ?_
 refine To.al fun b6=>?_
 refine To.z 4 ?_
 refine To.part 2 rfl (c.kids eX) (Cm.lax eX c) (Fl.comp_k hc) (To.one 0 rfl (ros encVs c.An c.vers) rfl (Cm.vers_k (k:=eX)) ?_)
 refine To.z 8 ?_
 refine To.sub [(1, .func (.func 117) #[] #[]),(12, .slice F.Ac F.comps.length F.qc),(13,nv F.comps.length),(14,nv k),(19, .slice c.An c.vers.length c.qn),(20,nv c.vers.length),(21,nv 0)] ⟨rfl,rfl,rfl,rfl,rfl,rfl,rfl,trivial⟩ ?_
 refine To.del2 (To.up4 (To.up4 (To.up4 ?_)))
 refine To.loop (fun mz ρ Γ=>∃(j:Nat),ρ=[(1, .func (.func 117) #[] #[]),(12, .slice F.Ac F.comps.length F.qc),(13,nv F.comps.length),(14,nv k),(19, .slice c.An c.vers.length c.qn),(20,nv c.vers.length),(21,nv j)]∧Γ=[ros encC F.Ac F.comps,all (F.kids eX),glc,ros encVs c.An c.vers,all (c.kids eX)]∧mz=c.vers.length-j∧(j≤c.vers.length)) (c.vers.length-0) ⟨0,rfl,rfl,rfl,(Nat.zero_le _)⟩ ?_
 rintro mz _ _ ⟨j,rfl,rfl,rfl,hj⟩
 refine To.z 6 ?_
 refine To.cp rfl (fun c22=>?_) (fun c22=>?_)
 obtain⟨v,hv⟩:∃z0,c.vers[j]?=some z0:=⟨c.vers[j]'(by omega),gge _⟩
 have hvg:=hcg.ver v (mog hv)
 have hvl:=hvg.1
 refine To.z 8 ?_
 refine To.al fun b8=>?_
 refine To.z 4 ?_
 refine To.part 5 rfl (v.kids eX) (Vs.lax eX v) (Cm.ver_k hv) (To.one 0 rfl (ros encH v.A v.l) rfl (Vs.l_k (k:=eX)) ?_)
 refine To.z 8 ?_
 refine To.sub [(1, .func (.func 117) #[] #[]),(12, .slice F.Ac F.comps.length F.qc),(13,nv F.comps.length),(14,nv k),(19, .slice c.An c.vers.length c.qn),(20,nv c.vers.length),(21,nv j),(26, .slice v.A v.l.length v.q),(27,nv v.l.length),(28,nv 0)] ⟨rfl,rfl,rfl,rfl,rfl,rfl,rfl,rfl,rfl,rfl,trivial⟩ ?_
 refine To.del2 (To.up6 (To.up6 (To.up6 (To.up6 (To.up6 ?_)))))
 refine To.loop (fun mz ρ Γ=>∃(i:Nat),ρ=[(1, .func (.func 117) #[] #[]),(12, .slice F.Ac F.comps.length F.qc),(13,nv F.comps.length),(14,nv k),(19, .slice c.An c.vers.length c.qn),(20,nv c.vers.length),(21,nv j),(26, .slice v.A v.l.length v.q),(27,nv v.l.length),(28,nv i)]∧Γ=[ros encC F.Ac F.comps,all (F.kids eX),glc,ros encVs c.An c.vers,all (c.kids eX),ros encH v.A v.l,all (v.kids eX)]∧mz=v.l.length-i∧(i≤v.l.length)) (v.l.length-0) ⟨0,rfl,rfl,rfl,(Nat.zero_le _)⟩ ?_
 rintro mz _ _ ⟨i,rfl,rfl,rfl,hi⟩
 refine To.z 6 ?_
 refine To.cp rfl (fun c29=>?_) (fun c29=>?_)
 obtain⟨h,hh⟩:∃z0,v.l[i]?=some z0:=⟨v.l[i]'(by omega),gge _⟩
 have hg:=hvg.2 h (mog hh)
 refine To.z 8 ?_
 refine To.al fun b10=>?_
 refine To.z 4 ?_
 refine To.part 7 rfl (h.kids eX) (Hd.lax eX h) (Vs.hd_k hh) ?_
 refine To.z 3 ?_
 refine To.cQ rfl rfl rfl (Ent.func (first:=[]) (captured:=[]) rfl rfl rfl ca117) (qnamedH_fn h hg) (by show owns (h.kids eX)++(owns gl++[])=[];rw[(Hd.lax eX h).owns];rfl) (ocs (oca 0 rfl) (ocs (oca 4 rfl) (ocn _))) ?_
 rintro _ _ ⟨rfl,rfl⟩
 refine⟨rfl,?_⟩
 refine To.z 12 ?_
 refine To.sub [(1, .func (.func 117) #[] #[]),(12, .slice F.Ac F.comps.length F.qc),(13,nv F.comps.length),(14,nv k),(19, .slice c.An c.vers.length c.qn),(20,nv c.vers.length),(21,nv j),(26, .slice v.A v.l.length v.q),(27,nv v.l.length),(28,nv ((i+1)))] ⟨rfl,rfl,rfl,rfl,rfl,rfl,rfl,rfl,rfl,rfl,trivial⟩ ?_
 refine To.del1 (To.del0 ?_)
 refine To.ag (v.l.length-(i+1)) (by omega) ⟨i+1,rfl,rfl,rfl,(by omega)⟩
 refine To.z 11 ?_
 refine To.sub [(1, .func (.func 117) #[] #[]),(12, .slice F.Ac F.comps.length F.qc),(13,nv F.comps.length),(14,nv k),(19, .slice c.An c.vers.length c.qn),(20,nv c.vers.length),(21,nv ((j+1)))] ⟨rfl,rfl,rfl,rfl,rfl,rfl,rfl,trivial⟩ ?_
 refine To.del6 (To.del5 ?_)
 refine To.ag (c.vers.length-(j+1)) (by omega) ⟨j+1,rfl,rfl,rfl,(by omega)⟩
 refine To.z 11 ?_
 refine To.sub [(1, .func (.func 117) #[] #[]),(12, .slice F.Ac F.comps.length F.qc),(13,nv F.comps.length),(14,nv ((k+1)))] ⟨rfl,rfl,rfl,rfl,trivial⟩ ?_
 refine To.del4 (To.del3 ?_)
 refine To.ag (F.comps.length-(k+1)) (by omega) ⟨k+1,rfl,rfl,rfl,(by omega)⟩
 refine To.z 11 ?_
 refine To.del2 (To.del1 (To.del0 (To.end1 (.inl rfl) Tryz.results114 rfl ?_)))
 exact⟨rfl,rfl⟩
theorem qehF_fn(F:Fl)(hF:GoodX F):
    Does Tryz.prog 114 [.agg #[.string F.name, .slice F.Af F.flags.length F.qf, .slice F.Al F.links.length F.ql, .slice F.Ac F.comps.length F.qc], .func (.func 121) #[] #[]] [all (F.kids eX),glc] (fun v Γ'=>v= .bool true∧Γ'=[]):=by
 have hFc:=hF.comps
 refine Does.enter Tryz.func114 rfl Tryz.ntmps114 rfl (fun w0=>?_)
 refine To.s (To.g ?_)
 refine To.bo fun b2=>?_
 refine To.z 5 ?_
 refine To.one 1 rfl (ros encC F.Ac F.comps) rfl (Fl.comps_k (k:=eX)) ?_
 refine To.z 8 ?_
 refine To.sub [(1, .func (.func 121) #[] #[]),(12, .slice F.Ac F.comps.length F.qc),(13,nv F.comps.length),(14,nv 0)] ⟨rfl,rfl,rfl,rfl,trivial⟩ ?_
 refine To.del1 ?_
 refine To.loop (fun mz ρ Γ=>∃(k:Nat),ρ=[(1, .func (.func 121) #[] #[]),(12, .slice F.Ac F.comps.length F.qc),(13,nv F.comps.length),(14,nv k)]∧Γ=[ros encC F.Ac F.comps,all (F.kids eX),glc]∧mz=F.comps.length-k∧(k≤F.comps.length)) (F.comps.length-0) ⟨0,rfl,rfl,rfl,(Nat.zero_le _)⟩ ?_
 rintro mz _ _ ⟨k,rfl,rfl,rfl,hk⟩
 refine To.z 6 ?_
 refine To.cp rfl (fun c15=>?_) (fun c15=>?_)
 obtain⟨c,hc⟩:∃z0,F.comps[k]?=some z0:=⟨F.comps[k]'(by omega),gge _⟩
 have hcg:=hF.comp c (mog hc)
 have hcv:=hcg.vers2
 have hcv1:=hcg.vers1
 have hcr:=hcg.vars
 refine To.z 8 ?_
 refine To.al fun b6=>?_
 refine To.z 4 ?_
 refine To.part 2 rfl (c.kids eX) (Cm.lax eX c) (Fl.comp_k hc) (To.one 0 rfl (ros encVs c.An c.vers) rfl (Cm.vers_k (k:=eX)) ?_)
 refine To.z 8 ?_
 refine To.sub [(1, .func (.func 121) #[] #[]),(12, .slice F.Ac F.comps.length F.qc),(13,nv F.comps.length),(14,nv k),(19, .slice c.An c.vers.length c.qn),(20,nv c.vers.length),(21,nv 0)] ⟨rfl,rfl,rfl,rfl,rfl,rfl,rfl,trivial⟩ ?_
 refine To.del2 (To.up4 (To.up4 (To.up4 ?_)))
 refine To.loop (fun mz ρ Γ=>∃(j:Nat),ρ=[(1, .func (.func 121) #[] #[]),(12, .slice F.Ac F.comps.length F.qc),(13,nv F.comps.length),(14,nv k),(19, .slice c.An c.vers.length c.qn),(20,nv c.vers.length),(21,nv j)]∧Γ=[ros encC F.Ac F.comps,all (F.kids eX),glc,ros encVs c.An c.vers,all (c.kids eX)]∧mz=c.vers.length-j∧(j≤c.vers.length)) (c.vers.length-0) ⟨0,rfl,rfl,rfl,(Nat.zero_le _)⟩ ?_
 rintro mz _ _ ⟨j,rfl,rfl,rfl,hj⟩
 refine To.z 6 ?_
 refine To.cp rfl (fun c22=>?_) (fun c22=>?_)
 obtain⟨v,hv⟩:∃z0,c.vers[j]?=some z0:=⟨c.vers[j]'(by omega),gge _⟩
 have hvg:=hcg.ver v (mog hv)
 have hvl:=hvg.1
 refine To.z 8 ?_
 refine To.al fun b8=>?_
 refine To.z 4 ?_
 refine To.part 5 rfl (v.kids eX) (Vs.lax eX v) (Cm.ver_k hv) (To.one 0 rfl (ros encH v.A v.l) rfl (Vs.l_k (k:=eX)) ?_)
 refine To.z 8 ?_
 refine To.sub [(1, .func (.func 121) #[] #[]),(12, .slice F.Ac F.comps.length F.qc),(13,nv F.comps.length),(14,nv k),(19, .slice c.An c.vers.length c.qn),(20,nv c.vers.length),(21,nv j),(26, .slice v.A v.l.length v.q),(27,nv v.l.length),(28,nv 0)] ⟨rfl,rfl,rfl,rfl,rfl,rfl,rfl,rfl,rfl,rfl,trivial⟩ ?_
 refine To.del2 (To.up6 (To.up6 (To.up6 (To.up6 (To.up6 ?_)))))
 refine To.loop (fun mz ρ Γ=>∃(i:Nat),ρ=[(1, .func (.func 121) #[] #[]),(12, .slice F.Ac F.comps.length F.qc),(13,nv F.comps.length),(14,nv k),(19, .slice c.An c.vers.length c.qn),(20,nv c.vers.length),(21,nv j),(26, .slice v.A v.l.length v.q),(27,nv v.l.length),(28,nv i)]∧Γ=[ros encC F.Ac F.comps,all (F.kids eX),glc,ros encVs c.An c.vers,all (c.kids eX),ros encH v.A v.l,all (v.kids eX)]∧mz=v.l.length-i∧(i≤v.l.length)) (v.l.length-0) ⟨0,rfl,rfl,rfl,(Nat.zero_le _)⟩ ?_
 rintro mz _ _ ⟨i,rfl,rfl,rfl,hi⟩
 refine To.z 6 ?_
 refine To.cp rfl (fun c29=>?_) (fun c29=>?_)
 obtain⟨h,hh⟩:∃z0,v.l[i]?=some z0:=⟨v.l[i]'(by omega),gge _⟩
 have hg:=hvg.2 h (mog hh)
 refine To.z 8 ?_
 refine To.al fun b10=>?_
 refine To.z 4 ?_
 refine To.part 7 rfl (h.kids eX) (Hd.lax eX h) (Vs.hd_k hh) ?_
 refine To.z 3 ?_
 refine To.cQ rfl rfl rfl (Ent.func (first:=[]) (captured:=[]) rfl rfl rfl ca121) (qformedH_fn h hg) (by show owns (h.kids eX)++(owns gl++[])=[];rw[(Hd.lax eX h).owns];rfl) (ocs (oca 0 rfl) (ocs (oca 4 rfl) (ocn _))) ?_
 rintro _ _ ⟨rfl,rfl⟩
 refine⟨rfl,?_⟩
 refine To.z 12 ?_
 refine To.sub [(1, .func (.func 121) #[] #[]),(12, .slice F.Ac F.comps.length F.qc),(13,nv F.comps.length),(14,nv k),(19, .slice c.An c.vers.length c.qn),(20,nv c.vers.length),(21,nv j),(26, .slice v.A v.l.length v.q),(27,nv v.l.length),(28,nv ((i+1)))] ⟨rfl,rfl,rfl,rfl,rfl,rfl,rfl,rfl,rfl,rfl,trivial⟩ ?_
 refine To.del1 (To.del0 ?_)
 refine To.ag (v.l.length-(i+1)) (by omega) ⟨i+1,rfl,rfl,rfl,(by omega)⟩
 refine To.z 11 ?_
 refine To.sub [(1, .func (.func 121) #[] #[]),(12, .slice F.Ac F.comps.length F.qc),(13,nv F.comps.length),(14,nv k),(19, .slice c.An c.vers.length c.qn),(20,nv c.vers.length),(21,nv ((j+1)))] ⟨rfl,rfl,rfl,rfl,rfl,rfl,rfl,trivial⟩ ?_
 refine To.del6 (To.del5 ?_)
 refine To.ag (c.vers.length-(j+1)) (by omega) ⟨j+1,rfl,rfl,rfl,(by omega)⟩
 refine To.z 11 ?_
 refine To.sub [(1, .func (.func 121) #[] #[]),(12, .slice F.Ac F.comps.length F.qc),(13,nv F.comps.length),(14,nv ((k+1)))] ⟨rfl,rfl,rfl,rfl,trivial⟩ ?_
 refine To.del4 (To.del3 ?_)
 refine To.ag (F.comps.length-(k+1)) (by omega) ⟨k+1,rfl,rfl,rfl,(by omega)⟩
 refine To.z 11 ?_
 refine To.del2 (To.del1 (To.del0 (To.end1 (.inl rfl) Tryz.results114 rfl ?_)))
 exact⟨rfl,rfl⟩
theorem qfvar_fn(y:Vr)(hy:okVr y):
    Does Tryz.prog 120 [.agg (encVx y).toArray] [] (fun v _=>v= .bool true):=by
 refine Does.enter Tryz.func120 rfl Tryz.ntmps120 rfl (fun w0=>?_)
 refine To.s (To.g ?_)
 refine To.bo fun b1=>?_
 refine To.z 17 ?_
 refine To.cp rfl (fun c5=>?_) (fun c5=>?_)
 have hv2:=hy.2
 refine To.z 4 ?_
 refine To.r (Rd.as (v':= .bool true) (congrArg Value.bool (decide_eq_true (by intro h;omega))) (Rd.neq rfl rfl rfl)) ?_
 refine To.z 6 ?_
 refine To.del0 (To.end1 (.inl rfl) Tryz.results120 rfl ?_)
 rfl
 refine To.z 6 ?_
 refine To.cp rfl (fun c10=>?_) (fun c10=>?_)
 have hv2:=hy.2
 refine To.z 4 ?_
 refine To.r (Rd.as (v':= .bool true) (congrArg Value.bool (decide_eq_true (by omega))) (Rd.eql rfl rfl rfl)) ?_
 refine To.z 11 ?_
 refine To.del0 (To.end1 (.inl rfl) Tryz.results120 rfl ?_)
 rfl
 refine To.z 6 ?_
 refine To.cp rfl (fun c20=>?_) (fun c20=>?_)
 have hv2:=hy.2
 refine To.z 4 ?_
 refine To.r (Rd.as (v':= .bool true) (congrArg Value.bool (decide_eq_true (by omega))) (Rd.eql rfl rfl rfl)) ?_
 refine To.z 6 ?_
 refine To.del0 (To.end1 (.inl rfl) Tryz.results120 rfl ?_)
 rfl
 exfalso;rcases hy.2 with h|h<;>omega
theorem qformed_fn(F:Fl)(hF:GoodX F):
    Does Tryz.prog 81 [.agg #[.string F.name, .slice F.Af F.flags.length F.qf, .slice F.Al F.links.length F.ql, .slice F.Ac F.comps.length F.qc]] [all (F.kids eX),glc] (fun v Γ'=>v= .bool true∧Γ'=[]):=by
 have hFc:=hF.comps
 have hFl:=hF.links
 refine Does.enter Tryz.func81 rfl Tryz.ntmps81 rfl (fun w0=>?_)
 refine To.s (To.g ?_)
 refine To.bo fun b1=>?_
 refine To.z 5 ?_
 refine To.one 1 rfl (ros encLk F.Al F.links) rfl (Fl.links_k (k:=eX)) ?_
 refine To.z 8 ?_
 refine To.sub [(1,pv b1),(10, .slice F.Al F.links.length F.ql),(11,nv F.links.length),(12,nv 0)] ⟨rfl,rfl,rfl,rfl,trivial⟩ ?_
 refine To.up1 ?_
 refine To.loop (fun mz ρ Γ=>∃(kz:Nat),ρ=[(1,pv b1),(10, .slice F.Al F.links.length F.ql),(11,nv F.links.length),(12,nv kz)]∧Γ=[box b1 [.string F.name, .slice F.Af F.flags.length F.qf, .slice F.Al F.links.length F.ql, .slice F.Ac F.comps.length F.qc] 74,ros encLk F.Al F.links,all (F.kids eX),glc]∧mz=F.links.length-kz∧(kz≤F.links.length)) (F.links.length-0) ⟨0,rfl,rfl,rfl,(Nat.zero_le _)⟩ ?_
 rintro mz _ _ ⟨kz,rfl,rfl,rfl,hkz⟩
 refine To.z 6 ?_
 refine To.cp rfl (fun c13=>?_) (fun c13=>?_)
 obtain⟨z,hz⟩:∃z0,F.links[kz]?=some z0:=⟨F.links[kz]'(by omega),gge _⟩
 have hzl:=hF.link z (mog hz)
 have hz1:=hzl.2.2.1
 have hz2:=hzl.2.2.2
 refine To.z 8 ?_
 refine To.al fun b4=>?_
 refine To.z 7 ?_
 refine To.r (Rd.as (v':= .bool false) (congrArg Value.bool (decide_eq_false (by omega))) (Rd.lss rfl rfl rfl)) ?_
 refine To.z 3 ?_
 refine To.r (Rd.as (v':= .bool false) (congrArg Value.bool (decide_eq_false (by omega))) (Rd.gtr rfl rfl rfl)) ?_
 refine To.z 12 ?_
 refine To.sub [(1,pv b1),(10, .slice F.Al F.links.length F.ql),(11,nv F.links.length),(12,nv ((kz+1)))] ⟨rfl,rfl,rfl,rfl,trivial⟩ ?_
 refine To.del0 ?_
 refine To.ag (F.links.length-(kz+1)) (by omega) ⟨kz+1,rfl,rfl,rfl,(by omega)⟩
 refine To.z 7 ?_
 refine To.one 2 rfl (ros encC F.Ac F.comps) rfl (Fl.comps_k (k:=eX)) ?_
 refine To.z 8 ?_
 refine To.sub [(1,pv b1),(26, .slice F.Ac F.comps.length F.qc),(27,nv F.comps.length),(28,nv 0)] ⟨rfl,rfl,rfl,rfl,trivial⟩ ?_
 refine To.del2 (To.up1 ?_)
 refine To.loop (fun mz ρ Γ=>∃(k:Nat),ρ=[(1,pv b1),(26, .slice F.Ac F.comps.length F.qc),(27,nv F.comps.length),(28,nv k)]∧Γ=[box b1 [.string F.name, .slice F.Af F.flags.length F.qf, .slice F.Al F.links.length F.ql, .slice F.Ac F.comps.length F.qc] 74,ros encC F.Ac F.comps,all (F.kids eX),glc]∧mz=F.comps.length-k∧(k≤F.comps.length)) (F.comps.length-0) ⟨0,rfl,rfl,rfl,(Nat.zero_le _)⟩ ?_
 rintro mz _ _ ⟨k,rfl,rfl,rfl,hk⟩
 refine To.z 6 ?_
 refine To.cp rfl (fun c29=>?_) (fun c29=>?_)
 obtain⟨c,hc⟩:∃z0,F.comps[k]?=some z0:=⟨F.comps[k]'(by omega),gge _⟩
 have hcg:=hF.comp c (mog hc)
 have hcv:=hcg.vers2
 have hcv1:=hcg.vers1
 have hcr:=hcg.vars
 refine To.z 8 ?_
 refine To.al fun b6=>?_
 refine To.z 4 ?_
 refine To.part 3 rfl (c.kids eX) (Cm.lax eX c) (Fl.comp_k hc) (To.one 0 rfl (ros encVx c.Av c.vars) rfl (Cm.vars_k (k:=eX)) ?_)
 refine To.z 8 ?_
 refine To.sub [(1,pv b1),(26, .slice F.Ac F.comps.length F.qc),(27,nv F.comps.length),(28,nv k),(33, .slice c.Av c.vars.length c.qv),(34,nv c.vars.length),(35,nv 0)] ⟨rfl,rfl,rfl,rfl,rfl,rfl,rfl,trivial⟩ ?_
 refine To.del2 (To.up5 (To.up5 (To.up5 (To.up5 ?_))))
 refine To.loop (fun mz ρ Γ=>∃(j:Nat),ρ=[(1,pv b1),(26, .slice F.Ac F.comps.length F.qc),(27,nv F.comps.length),(28,nv k),(33, .slice c.Av c.vars.length c.qv),(34,nv c.vars.length),(35,nv j)]∧Γ=[box b1 [.string F.name, .slice F.Af F.flags.length F.qf, .slice F.Al F.links.length F.ql, .slice F.Ac F.comps.length F.qc] 74,ros encC F.Ac F.comps,all (F.kids eX),glc,ros encVx c.Av c.vars,all (c.kids eX)]∧mz=c.vars.length-j∧(j≤c.vars.length)) (c.vars.length-0) ⟨0,rfl,rfl,rfl,(Nat.zero_le _)⟩ ?_
 rintro mz _ _ ⟨j,rfl,rfl,rfl,hj⟩
 refine To.z 6 ?_
 refine To.cp rfl (fun c36=>?_) (fun c36=>?_)
 obtain⟨y,hy⟩:∃z0,c.vars[j]?=some z0:=⟨c.vars[j]'(by omega),gge _⟩
 refine To.z 8 ?_
 refine To.al fun b8=>?_
 refine To.z 6 ?_
 refine To.cV rfl rfl rfl (Ent.fn rfl rfl ca120) (qfvar_fn y (hcg.var y (mog hy))) rfl (ocn _) ?_
 refine To.z 12 ?_
 refine To.sub [(1,pv b1),(26, .slice F.Ac F.comps.length F.qc),(27,nv F.comps.length),(28,nv k),(33, .slice c.Av c.vars.length c.qv),(34,nv c.vars.length),(35,nv ((j+1)))] ⟨rfl,rfl,rfl,rfl,rfl,rfl,rfl,trivial⟩ ?_
 refine To.del0 ?_
 refine To.ag (c.vars.length-(j+1)) (by omega) ⟨j+1,rfl,rfl,rfl,(by omega)⟩
 refine To.z 11 ?_
 refine To.sub [(1,pv b1),(26, .slice F.Ac F.comps.length F.qc),(27,nv F.comps.length),(28,nv ((k+1)))] ⟨rfl,rfl,rfl,rfl,trivial⟩ ?_
 refine To.del5 (To.del4 ?_)
 refine To.ag (F.comps.length-(k+1)) (by omega) ⟨k+1,rfl,rfl,rfl,(by omega)⟩
 refine To.z 8 ?_
 refine To.cQ rfl rfl rfl (Ent.fn rfl rfl ca114) (qehF_fn F hF) (by show owns (F.kids eX)++(owns gl++[])=[];rw[(Fl.lax eX F).owns];rfl) (ocs (oca 2 rfl) (ocs (oca 3 rfl) (ocn _))) ?_
 rintro _ _ ⟨rfl,rfl⟩
 refine⟨rfl,?_⟩
 refine To.z 4 ?_
 refine To.del3 (To.del2 (To.del1 (To.del0 (To.end1 (.inl rfl) Tryz.results81 rfl ?_))))
 exact⟨rfl,rfl⟩
theorem qnamed_fn(F:Fl)(hF:GoodX F):
    Does Tryz.prog 80 [.agg #[.string F.name, .slice F.Af F.flags.length F.qf, .slice F.Al F.links.length F.ql, .slice F.Ac F.comps.length F.qc]] [all (F.kids eX),glc] (fun v Γ'=>v= .bool true∧Γ'=[]):=by
 have hFc:=hF.comps
 have hFl:=hF.links
 have hFf:=hF.flags
 refine Does.enter Tryz.func80 rfl Tryz.ntmps80 rfl (fun w0=>?_)
 refine To.s (To.g ?_)
 refine To.bo fun b1=>?_
 refine To.z 7 ?_
 refine To.cV rfl rfl rfl (Ent.fn rfl rfl ca116) (isname_fn hF.nm) rfl (oks_gl 2 rfl) ?_
 refine To.z 5 ?_
 refine To.one 1 rfl (ros encFg F.Af F.flags) rfl (Fl.flags_k (k:=eX)) ?_
 refine To.z 8 ?_
 refine To.sub [(1,pv b1),(3, .bool true),(16, .slice F.Af F.flags.length F.qf),(17,nv F.flags.length),(18,nv 0)] ⟨rfl,rfl,rfl,rfl,rfl,trivial⟩ ?_
 refine To.up1 ?_
 refine To.loop (fun mz ρ Γ=>∃(f0:Nat),ρ=[(1,pv b1),(3, .bool true),(16, .slice F.Af F.flags.length F.qf),(17,nv F.flags.length),(18,nv f0)]∧Γ=[box b1 [.string F.name, .slice F.Af F.flags.length F.qf, .slice F.Al F.links.length F.ql, .slice F.Ac F.comps.length F.qc] 74,ros encFg F.Af F.flags,all (F.kids eX),glc]∧mz=F.flags.length-f0∧(f0≤F.flags.length)) (F.flags.length-0) ⟨0,rfl,rfl,rfl,(Nat.zero_le _)⟩ ?_
 rintro mz _ _ ⟨f0,rfl,rfl,rfl,hf0⟩
 refine To.z 6 ?_
 refine To.cp rfl (fun c19=>?_) (fun c19=>?_)
 obtain⟨x,hx⟩:∃z0,F.flags[f0]?=some z0:=⟨F.flags[f0]'(by omega),gge _⟩
 refine To.z 8 ?_
 refine To.al fun b5=>?_
 refine To.z 8 ?_
 refine To.cV rfl rfl rfl (Ent.fn rfl rfl ca116) (isname_fn (hF.flag x (mog hx))) rfl (oks_gl 4 rfl) ?_
 refine To.z 10 ?_
 refine To.sub [(1,pv b1),(3, .bool true),(16, .slice F.Af F.flags.length F.qf),(17,nv F.flags.length),(18,nv ((f0+1)))] ⟨rfl,rfl,rfl,rfl,rfl,trivial⟩ ?_
 refine To.del0 ?_
 refine To.ag (F.flags.length-(f0+1)) (by omega) ⟨f0+1,rfl,rfl,rfl,(by omega)⟩
 refine To.z 7 ?_
 refine To.one 2 rfl (ros encLk F.Al F.links) rfl (Fl.links_k (k:=eX)) ?_
 refine To.z 8 ?_
 refine To.sub [(1,pv b1),(3, .bool true),(30, .slice F.Al F.links.length F.ql),(31,nv F.links.length),(32,nv 0)] ⟨rfl,rfl,rfl,rfl,rfl,trivial⟩ ?_
 refine To.del2 (To.up1 ?_)
 refine To.loop (fun mz ρ Γ=>∃(kz:Nat),ρ=[(1,pv b1),(3, .bool true),(30, .slice F.Al F.links.length F.ql),(31,nv F.links.length),(32,nv kz)]∧Γ=[box b1 [.string F.name, .slice F.Af F.flags.length F.qf, .slice F.Al F.links.length F.ql, .slice F.Ac F.comps.length F.qc] 74,ros encLk F.Al F.links,all (F.kids eX),glc]∧mz=F.links.length-kz∧(kz≤F.links.length)) (F.links.length-0) ⟨0,rfl,rfl,rfl,(Nat.zero_le _)⟩ ?_
 rintro mz _ _ ⟨kz,rfl,rfl,rfl,hkz⟩
 refine To.z 6 ?_
 refine To.cp rfl (fun c33=>?_) (fun c33=>?_)
 obtain⟨z,hz⟩:∃z0,F.links[kz]?=some z0:=⟨F.links[kz]'(by omega),gge _⟩
 have hzl:=hF.link z (mog hz)
 have hz1:=hzl.2.2.1
 have hz2:=hzl.2.2.2
 refine To.z 8 ?_
 refine To.al fun b7=>?_
 refine To.z 8 ?_
 refine To.cV rfl rfl rfl (Ent.fn rfl rfl ca116) (isname_fn hzl.1) rfl (oks_gl 4 rfl) ?_
 refine To.z 4 ?_
 refine To.cV rfl rfl rfl (Ent.fn rfl rfl ca116) (isname_fn hzl.2.1) rfl (oks_gl 4 rfl) ?_
 refine To.z 10 ?_
 refine To.sub [(1,pv b1),(3, .bool true),(30, .slice F.Al F.links.length F.ql),(31,nv F.links.length),(32,nv ((kz+1)))] ⟨rfl,rfl,rfl,rfl,rfl,trivial⟩ ?_
 refine To.del0 ?_
 refine To.ag (F.links.length-(kz+1)) (by omega) ⟨kz+1,rfl,rfl,rfl,(by omega)⟩
 refine To.z 7 ?_
 refine To.one 2 rfl (ros encC F.Ac F.comps) rfl (Fl.comps_k (k:=eX)) ?_
 refine To.z 8 ?_
 refine To.sub [(1,pv b1),(3, .bool true),(49, .slice F.Ac F.comps.length F.qc),(50,nv F.comps.length),(51,nv 0)] ⟨rfl,rfl,rfl,rfl,rfl,trivial⟩ ?_
 refine To.del2 (To.up1 ?_)
 refine To.loop (fun mz ρ Γ=>∃(k:Nat),ρ=[(1,pv b1),(3, .bool true),(49, .slice F.Ac F.comps.length F.qc),(50,nv F.comps.length),(51,nv k)]∧Γ=[box b1 [.string F.name, .slice F.Af F.flags.length F.qf, .slice F.Al F.links.length F.ql, .slice F.Ac F.comps.length F.qc] 74,ros encC F.Ac F.comps,all (F.kids eX),glc]∧mz=F.comps.length-k∧(k≤F.comps.length)) (F.comps.length-0) ⟨0,rfl,rfl,rfl,(Nat.zero_le _)⟩ ?_
 rintro mz _ _ ⟨k,rfl,rfl,rfl,hk⟩
 refine To.z 6 ?_
 refine To.cp rfl (fun c52=>?_) (fun c52=>?_)
 obtain⟨c,hc⟩:∃z0,F.comps[k]?=some z0:=⟨F.comps[k]'(by omega),gge _⟩
 have hcg:=hF.comp c (mog hc)
 have hcv:=hcg.vers2
 have hcv1:=hcg.vers1
 have hcr:=hcg.vars
 refine To.z 8 ?_
 refine To.al fun b9=>?_
 refine To.z 9 ?_
 refine To.cV rfl rfl rfl (Ent.fn rfl rfl ca116) (isname_fn hcg.nm) rfl (oks_gl 4 rfl) ?_
 refine To.z 5 ?_
 refine To.part 3 rfl (c.kids eX) (Cm.lax eX c) (Fl.comp_k hc) (To.one 0 rfl (ros encVx c.Av c.vars) rfl (Cm.vars_k (k:=eX)) ?_)
 refine To.z 8 ?_
 refine To.sub [(1,pv b1),(3, .bool true),(49, .slice F.Ac F.comps.length F.qc),(50,nv F.comps.length),(51,nv k),(62, .slice c.Av c.vars.length c.qv),(63,nv c.vars.length),(64,nv 0)] ⟨rfl,rfl,rfl,rfl,rfl,rfl,rfl,rfl,trivial⟩ ?_
 refine To.del2 (To.up5 (To.up5 (To.up5 (To.up5 ?_))))
 refine To.loop (fun mz ρ Γ=>∃(j:Nat),ρ=[(1,pv b1),(3, .bool true),(49, .slice F.Ac F.comps.length F.qc),(50,nv F.comps.length),(51,nv k),(62, .slice c.Av c.vars.length c.qv),(63,nv c.vars.length),(64,nv j)]∧Γ=[box b1 [.string F.name, .slice F.Af F.flags.length F.qf, .slice F.Al F.links.length F.ql, .slice F.Ac F.comps.length F.qc] 74,ros encC F.Ac F.comps,all (F.kids eX),glc,ros encVx c.Av c.vars,all (c.kids eX)]∧mz=c.vars.length-j∧(j≤c.vars.length)) (c.vars.length-0) ⟨0,rfl,rfl,rfl,(Nat.zero_le _)⟩ ?_
 rintro mz _ _ ⟨j,rfl,rfl,rfl,hj⟩
 refine To.z 6 ?_
 refine To.cp rfl (fun c65=>?_) (fun c65=>?_)
 obtain⟨y,hy⟩:∃z0,c.vars[j]?=some z0:=⟨c.vars[j]'(by omega),gge _⟩
 refine To.z 8 ?_
 refine To.al fun b11=>?_
 refine To.z 8 ?_
 refine To.cV rfl rfl rfl (Ent.fn rfl rfl ca116) (isname_fn (hcg.var y (mog hy)).1) rfl (oks_gl 4 rfl) ?_
 refine To.z 10 ?_
 refine To.sub [(1,pv b1),(3, .bool true),(49, .slice F.Ac F.comps.length F.qc),(50,nv F.comps.length),(51,nv k),(62, .slice c.Av c.vars.length c.qv),(63,nv c.vars.length),(64,nv ((j+1)))] ⟨rfl,rfl,rfl,rfl,rfl,rfl,rfl,rfl,trivial⟩ ?_
 refine To.del0 ?_
 refine To.ag (c.vars.length-(j+1)) (by omega) ⟨j+1,rfl,rfl,rfl,(by omega)⟩
 refine To.z 11 ?_
 refine To.sub [(1,pv b1),(3, .bool true),(49, .slice F.Ac F.comps.length F.qc),(50,nv F.comps.length),(51,nv ((k+1)))] ⟨rfl,rfl,rfl,rfl,rfl,trivial⟩ ?_
 refine To.del5 (To.del4 ?_)
 refine To.ag (F.comps.length-(k+1)) (by omega) ⟨k+1,rfl,rfl,rfl,(by omega)⟩
 refine To.z 10 ?_
 refine To.cQ rfl rfl rfl (Ent.fn rfl rfl ca114) (qehN_fn F hF) (by show owns (F.kids eX)++(owns gl++[])=[];rw[(Fl.lax eX F).owns];rfl) (ocs (oca 2 rfl) (ocs (oca 3 rfl) (ocn _))) ?_
 rintro _ _ ⟨rfl,rfl⟩
 refine⟨rfl,?_⟩
 refine To.z 5 ?_
 refine To.del3 (To.del2 (To.del1 (To.del0 (To.end1 (.inl rfl) Tryz.results80 rfl ?_))))
 exact⟨rfl,rfl⟩
theorem qsmall_fn(F:Fl)(hF:GoodX F):
    Does Tryz.prog 79 [.agg #[.string F.name, .slice F.Af F.flags.length F.qf, .slice F.Al F.links.length F.ql, .slice F.Ac F.comps.length F.qc]] [all (F.kids eX),glc] (fun v Γ'=>v= .bool true∧Γ'=[]):=by
 have hFc:=hF.comps
 have hFc1:=hF.comps1
 have hFl:=hF.links
 have hFf:=hF.flags
 refine Does.enter Tryz.func79 rfl Tryz.ntmps79 rfl (fun w0=>?_)
 refine To.s (To.g ?_)
 refine To.bo fun b1=>?_
 refine To.z 15 ?_
 refine To.r (Rd.as (v':= .bool false) (congrArg Value.bool (decide_eq_false (by omega))) (Rd.eql rfl rfl rfl)) ?_
 refine To.z 2 ?_
 refine To.r (Rd.as (v':= .bool false) (congrArg Value.bool (decide_eq_false (by omega))) (Rd.gtr rfl rfl rfl)) ?_
 refine To.z 5 ?_
 refine To.r (Rd.as (v':= .bool false) (congrArg Value.bool (decide_eq_false (by omega))) (Rd.gtr rfl rfl rfl)) ?_
 refine To.z 5 ?_
 refine To.r (Rd.as (v':= .bool false) (congrArg Value.bool (decide_eq_false (by omega))) (Rd.gtr rfl rfl rfl)) ?_
 refine To.z 8 ?_
 refine To.one 1 rfl (ros encC F.Ac F.comps) rfl (Fl.comps_k (k:=eX)) ?_
 refine To.z 8 ?_
 refine To.sub [(1,pv b1),(34, .slice F.Ac F.comps.length F.qc),(35,nv F.comps.length),(36,nv 0)] ⟨rfl,rfl,rfl,rfl,trivial⟩ ?_
 refine To.up1 ?_
 refine To.loop (fun mz ρ Γ=>∃(k:Nat),ρ=[(1,pv b1),(34, .slice F.Ac F.comps.length F.qc),(35,nv F.comps.length),(36,nv k)]∧Γ=[box b1 [.string F.name, .slice F.Af F.flags.length F.qf, .slice F.Al F.links.length F.ql, .slice F.Ac F.comps.length F.qc] 74,ros encC F.Ac F.comps,all (F.kids eX),glc]∧mz=F.comps.length-k∧(k≤F.comps.length)) (F.comps.length-0) ⟨0,rfl,rfl,rfl,(Nat.zero_le _)⟩ ?_
 rintro mz _ _ ⟨k,rfl,rfl,rfl,hk⟩
 refine To.z 6 ?_
 refine To.cp rfl (fun c37=>?_) (fun c37=>?_)
 obtain⟨c,hc⟩:∃z0,F.comps[k]?=some z0:=⟨F.comps[k]'(by omega),gge _⟩
 have hcg:=hF.comp c (mog hc)
 have hcv:=hcg.vers2
 have hcv1:=hcg.vers1
 have hcr:=hcg.vars
 refine To.z 8 ?_
 refine To.al fun b5=>?_
 refine To.z 17 ?_
 refine To.r (Rd.as (v':= .bool false) (congrArg Value.bool (decide_eq_false (by omega))) (Rd.gtr rfl rfl rfl)) ?_
 refine To.z 2 ?_
 refine To.r (Rd.as (v':= .bool false) (congrArg Value.bool (decide_eq_false (by omega))) (Rd.eql rfl rfl rfl)) ?_
 refine To.z 3 ?_
 refine To.r (Rd.as (v':= .bool false) (congrArg Value.bool (decide_eq_false (by omega))) (Rd.gtr rfl rfl rfl)) ?_
 refine To.z 8 ?_
 refine To.mk rfl rfl rfl (Mk.makeMapOwn (fun s:ByteArray=>Value.string s) (fun b:Bool=>Value.bool b) rfl) ?_
 rintro _ _ ⟨m55,rfl,rfl⟩
 refine To.z 5 ?_
 refine To.part 4 rfl (c.kids eX) (Cm.lax eX c) (Fl.comp_k hc) (To.one 0 rfl (ros encVs c.An c.vers) rfl (Cm.vers_k (k:=eX)) ?_)
 refine To.z 8 ?_
 refine To.sub [(1,pv b1),(34, .slice F.Ac F.comps.length F.qc),(35,nv F.comps.length),(36,nv k),(7, .map (some m55)),(57, .slice c.An c.vers.length c.qn),(58,nv c.vers.length),(59,nv 0)] ⟨rfl,rfl,rfl,rfl,rfl,rfl,rfl,rfl,trivial⟩ ?_
 refine To.del3 (To.up6 (To.up6 (To.up6 (To.up6 ?_))))
 refine To.loop (fun mz ρ Γ=>∃(mj:List (ByteArray×Bool)) (j:Nat),ρ=[(1,pv b1),(34, .slice F.Ac F.comps.length F.qc),(35,nv F.comps.length),(36,nv k),(7, .map (some m55)),(57, .slice c.An c.vers.length c.qn),(58,nv c.vers.length),(59,nv j)]∧Γ=[box b1 [.string F.name, .slice F.Af F.flags.length F.qf, .slice F.Al F.links.length F.ql, .slice F.Ac F.comps.length F.qc] 74,ros encC F.Ac F.comps,all (F.kids eX),glc,ros encVs c.An c.vers,all (c.kids eX),mapc (fun s:ByteArray=>Value.string s) (fun b:Bool=>Value.bool b) m55 mj]∧mz=c.vers.length-j∧(j≤c.vers.length)∧(mj.length≤3*j)) (c.vers.length-0) ⟨[],0,rfl,rfl,rfl,(Nat.zero_le _),(Nat.zero_le _)⟩ ?_
 rintro mz _ _ ⟨mj,j,rfl,rfl,rfl,hj,hmj⟩
 refine To.z 6 ?_
 refine To.cp rfl (fun c60=>?_) (fun c60=>?_)
 obtain⟨v,hv⟩:∃z0,c.vers[j]?=some z0:=⟨c.vers[j]'(by omega),gge _⟩
 have hvg:=hcg.ver v (mog hv)
 have hvl:=hvg.1
 refine To.z 8 ?_
 refine To.al fun b9=>?_
 refine To.z 4 ?_
 refine To.part 6 rfl (v.kids eX) (Vs.lax eX v) (Cm.ver_k hv) (To.one 0 rfl (ros encH v.A v.l) rfl (Vs.l_k (k:=eX)) ?_)
 refine To.z 8 ?_
 refine To.sub [(1,pv b1),(34, .slice F.Ac F.comps.length F.qc),(35,nv F.comps.length),(36,nv k),(7, .map (some m55)),(57, .slice c.An c.vers.length c.qn),(58,nv c.vers.length),(59,nv j),(64, .slice v.A v.l.length v.q),(65,nv v.l.length),(66,nv 0)] ⟨rfl,rfl,rfl,rfl,rfl,rfl,rfl,rfl,rfl,rfl,rfl,trivial⟩ ?_
 refine To.del2 (To.up7 (To.up7 (To.up7 (To.up7 (To.up7 (To.up7 ?_))))))
 refine To.loop (fun mz ρ Γ=>∃(mi:List (ByteArray×Bool)) (i:Nat),ρ=[(1,pv b1),(34, .slice F.Ac F.comps.length F.qc),(35,nv F.comps.length),(36,nv k),(7, .map (some m55)),(57, .slice c.An c.vers.length c.qn),(58,nv c.vers.length),(59,nv j),(64, .slice v.A v.l.length v.q),(65,nv v.l.length),(66,nv i)]∧Γ=[box b1 [.string F.name, .slice F.Af F.flags.length F.qf, .slice F.Al F.links.length F.ql, .slice F.Ac F.comps.length F.qc] 74,ros encC F.Ac F.comps,all (F.kids eX),glc,ros encVs c.An c.vers,all (c.kids eX),ros encH v.A v.l,all (v.kids eX),mapc (fun s:ByteArray=>Value.string s) (fun b:Bool=>Value.bool b) m55 mi]∧mz=v.l.length-i∧(i≤v.l.length)∧(mi.length≤3*j+i)) (v.l.length-0) ⟨mj,0,rfl,rfl,rfl,(Nat.zero_le _),hmj⟩ ?_
 rintro mz _ _ ⟨mi,i,rfl,rfl,rfl,hi,hmi⟩
 refine To.z 6 ?_
 refine To.cp rfl (fun c67=>?_) (fun c67=>?_)
 obtain⟨h,hh⟩:∃z0,v.l[i]?=some z0:=⟨v.l[i]'(by omega),gge _⟩
 have hg:=hvg.2 h (mog hh)
 refine To.z 8 ?_
 refine To.al fun b11=>?_
 refine To.z 7 ?_
 refine To.u (Up.mapUpdate (i:=9) (k:=h.name) (v:=true) (m:=mi) (KeyTy.str Tryz.underlying9) rfl Tryz.underlying243 rfl rfl rfl rfl) ?_
 refine To.z 8 ?_
 refine To.sub [(1,pv b1),(34, .slice F.Ac F.comps.length F.qc),(35,nv F.comps.length),(36,nv k),(7, .map (some m55)),(57, .slice c.An c.vers.length c.qn),(58,nv c.vers.length),(59,nv j),(64, .slice v.A v.l.length v.q),(65,nv v.l.length),(66,nv ((i+1)))] ⟨rfl,rfl,rfl,rfl,rfl,rfl,rfl,rfl,rfl,rfl,rfl,trivial⟩ ?_
 refine To.del0 ?_
 refine To.ag (v.l.length-(i+1)) (by omega) ⟨(aset mi h.name true),i+1,rfl,rfl,rfl,(by omega),(by have:=aset_len h.name true mi;omega)⟩
 refine To.z 11 ?_
 refine To.sub [(1,pv b1),(34, .slice F.Ac F.comps.length F.qc),(35,nv F.comps.length),(36,nv k),(7, .map (some m55)),(57, .slice c.An c.vers.length c.qn),(58,nv c.vers.length),(59,nv ((j+1)))] ⟨rfl,rfl,rfl,rfl,rfl,rfl,rfl,rfl,trivial⟩ ?_
 refine To.del7 (To.del6 ?_)
 refine To.ag (c.vers.length-(j+1)) (by omega) ⟨mi,j+1,rfl,rfl,rfl,(by omega),(by omega)⟩
 refine To.z 8 ?_
 refine To.r (Rd.lenMap (i:=6) (m:=mj) rfl Tryz.underlying243 rfl rfl) ?_
 refine To.r (Rd.as (v':= .bool false) (congrArg Value.bool (decide_eq_false (by omega))) (Rd.gtr rfl rfl rfl)) ?_
 refine To.z 11 ?_
 refine To.sub [(1,pv b1),(34, .slice F.Ac F.comps.length F.qc),(35,nv F.comps.length),(36,nv ((k+1)))] ⟨rfl,rfl,rfl,rfl,trivial⟩ ?_
 refine To.del6 (To.del5 (To.del4 ?_))
 refine To.ag (F.comps.length-(k+1)) (by omega) ⟨k+1,rfl,rfl,rfl,(by omega)⟩
 refine To.z 8 ?_
 refine To.cQ rfl rfl rfl (Ent.fn rfl rfl ca114) (qehS_fn F hF) (by show owns (F.kids eX)++(owns gl++[])=[];rw[(Fl.lax eX F).owns];rfl) (ocs (oca 2 rfl) (ocs (oca 3 rfl) (ocn _))) ?_
 rintro _ _ ⟨rfl,rfl⟩
 refine⟨rfl,?_⟩
 refine To.z 4 ?_
 refine To.del3 (To.del2 (To.del1 (To.del0 (To.end1 (.inl rfl) Tryz.results79 rfl ?_))))
 exact⟨rfl,rfl⟩
theorem qcheck_fn(F:Fl)(hF:GoodX F):
    Does Tryz.prog 47 [.agg #[.string F.name, .slice F.Af F.flags.length F.qf, .slice F.Al F.links.length F.ql, .slice F.Ac F.comps.length F.qc]] [all (F.kids eX),glc] (fun v Γ'=>v= .int .i64 0∧Γ'=[]):=by
 refine Does.enter Tryz.func47 rfl Tryz.ntmps47 rfl (fun w0=>?_)
 refine To.s (To.g ?_)
 refine To.bo fun b1=>?_
 refine To.z 8 ?_
 refine To.cQ rfl rfl rfl (Ent.fn rfl rfl ca79) (qsmall_fn F hF) (by show owns (F.kids eX)++(owns gl++[])=[];rw[(Fl.lax eX F).owns];rfl) (ocs (oca 1 rfl) (ocs (oca 2 rfl) (ocn _))) ?_
 rintro _ _ ⟨rfl,rfl⟩
 refine⟨rfl,?_⟩
 refine To.z 8 ?_
 refine To.cQ rfl rfl rfl (Ent.fn rfl rfl ca80) (qnamed_fn F hF) (by show owns (F.kids eX)++(owns gl++[])=[];rw[(Fl.lax eX F).owns];rfl) (ocs (oca 1 rfl) (ocs (oca 2 rfl) (ocn _))) ?_
 rintro _ _ ⟨rfl,rfl⟩
 refine⟨rfl,?_⟩
 refine To.z 8 ?_
 refine To.cQ rfl rfl rfl (Ent.fn rfl rfl ca81) (qformed_fn F hF) (by show owns (F.kids eX)++(owns gl++[])=[];rw[(Fl.lax eX F).owns];rfl) (ocs (oca 1 rfl) (ocs (oca 2 rfl) (ocn _))) ?_
 rintro _ _ ⟨rfl,rfl⟩
 refine⟨rfl,?_⟩
 refine To.z 14 ?_
 refine To.del2 (To.del1 (To.del0 (To.end1 (.inl rfl) Tryz.results47 rfl ?_)))
 exact⟨rfl,rfl⟩
end Go.Proofs.YtihgdnjkofpgiaaGreatDoor

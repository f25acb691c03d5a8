/- Merged out of Q8p, Q8 by merge.py. Own text. -/
import Derived.Test.YtllalpnmagpkfaaGreatDoorQd
import Derived.Test.YtllalpnmagpkfaaGreatDoorQb
set_option linter.unusedVariables false
set_option linter.unusedSimpArgs false
set_option maxHeartbeats 2000000
set_option maxRecDepth 100000
namespace Go.Proofs.YtllalpnmagpkfaaGreatDoor
open Go.Proofs.Tryz
open Go.RowKit Go.Flow Go.Mem Go.Sep Go.In
structure Hd.Good(h:Hd):Prop where
 nm:isNm h.name
 ps:h.ps.length≤2
 psn:∀p∈h.ps,isNm p
 len:h.body.length≤12
 low:PS.lowL (St.pL h.body)
 fine:PS.fineL (St.pL h.body)
 cnt:PS.cntL (St.pL h.body)≤12
 dep:PS.sdepL (St.pL h.body)≤4
def okVr(v:Vr):Prop:=isNm v.name∧(v.ty=1∧0≤v.init∧v.init≤3∨(v.ty=2∨v.ty=3)∧v.init=0)
structure Cm.Good(c:Cm):Prop where
 nm:isNm c.name
 vars:c.vars.length≤5
 var:∀v∈c.vars,okVr v
 vers1:1≤c.vers.length
 vers2:c.vers.length≤2
 ver:∀v∈c.vers,v.l.length≤3∧∀h∈v.l,h.Good
structure GoodX(F:Fl):Prop where
 nm:isNm F.name
 flags:F.flags.length≤2
 flag:∀x∈F.flags,isNm x.name
 links:F.links.length≤9
 link:∀x∈F.links,isNm x.src∧isNm x.dst∧1≤x.lat∧x.lat≤3
 comps1:1≤F.comps.length
 comps:F.comps.length≤3
 comp:∀c∈F.comps,c.Good
theorem nms_mem{c n:Nat}{s:ByteArray}(h:s∈nms c n):∃k,k<n∧s=nm c k:=by
 unfold nms at h
 obtain⟨k,hk,rfl⟩:=List.mem_map.1 h
 exact⟨k,List.mem_range.1 hk,rfl⟩
theorem okVr_of{ints tables:Nat}(hi:ints≤3){v:Vr}(h:v∈varsOf ints tables):okVr v:=by
 unfold varsOf at h
 rcases List.mem_append.1 h with h|h
 · rcases List.mem_append.1 h with h|h
   · obtain⟨k,hk,rfl⟩:=List.mem_map.1 h
     have:=List.mem_range.1 hk
     exact⟨isNm_x om, .inl ⟨rfl,by show(0:Int)≤(k:Int);omega,by show(k:Int)≤3;omega⟩⟩
   ·rw[List.mem_singleton.1 h];exact⟨isNm_b0, .inr ⟨.inl rfl,rfl⟩⟩
 · obtain⟨k,hk,rfl⟩:=List.mem_map.1 h
   exact⟨isNm_t0, .inr ⟨.inr rfl,rfl⟩⟩
theorem vars_len(a b:Nat):(varsOf a b).length=a+1+b:=by
 unfold varsOf;simp only[lap,List.length_map,List.length_range,lc1,ln0]
theorem goodX{F:Fl}(h:GoodF F.pure):GoodX F:=by
 obtain⟨ars,ho,hl,hg⟩:=h.comps
 have hcl:F.comps.length=ars.length:=by have h1:(F.comps.map Cm.pure).length=ars.length:=hl;rwa[List.length_map]at h1
 have hll:=h.links
 refine⟨by have h1:F.name=_:=h.name;rw[h1];exact isNm_fl,h.flags.1,fun x hx=>?_,hll.1,fun x hx=>?_,by have:=ho.1;omega,by have:=ho.1;omega,fun c hc=>?_⟩
 · have h1:F.flags.map Fg.name=nms 102 F.flags.length:=h.flags.2
   have h3:F.flags.length≤2:=h.flags.1
   obtain⟨k,hk,e⟩:=nms_mem (show x.name∈nms 102 F.flags.length by rw[←h1];exact List.mem_map.2 ⟨x,hx,rfl⟩)
   rw[e];exact isNm_f om
 · obtain⟨i,j,hi,hj,e1,e2,e3⟩:=hll.2.1 x hx
   have hp:F.pure.comps.length=F.comps.length:=List.length_map ..
   have h3:=ho.1
   rw[e1,e2];exact⟨isNm_c om,isNm_c om,e3⟩
 · obtain⟨i,hi⟩:=List.getElem?_of_mem hc
   have hpi:F.pure.comps[i]?=some c.pure:=by
    show(F.comps.map Cm.pure)[i]?=_
    rw[List.getElem?_map,hi];rfl
   obtain⟨ct,ar,ok⟩:=h.okC hpi
   have hil:i<F.comps.length:=(List.getElem?_eq_some_iff.1 hi).1
   have g:=hg i _ hpi
   obtain⟨_,_,_,_,_,_,_,_,hvn,_⟩:=g.vers
   have hcv:c.vars=varsOf ct.ints ct.tables:=ok.vars
   have hci:=ok.ok.ints
   have hct:=ok.ok.tables
   have har:=ok.ok.each ar (mog ok.arr)
   have hvl:(c.vers.map Vs.pure).length=c.vers.length:=List.length_map ..
   have hvn:1≤(c.vers.map Vs.pure).length∧(c.vers.map Vs.pure).length≤2:=hvn
   refine⟨by have h1:c.name=nC i:=ok.name;rw[h1];exact isNm_c (by have:=ho.1;omega),by rw[hcv,vars_len];omega,fun v hv=>okVr_of hci.2 (by rw[←hcv];exact hv),by omega,by omega,fun v hv=>?_⟩
   have gv:=ok.vers v.pure (List.mem_map.2 ⟨v,hv,rfl⟩)
   have hpl:v.pure.length=v.l.length:=List.length_map ..
   have gl:=gv.2.1
   refine⟨by omega,fun x hx=>?_⟩
   obtain⟨k,hk⟩:=List.getElem?_of_mem hx
   have hkl:k<v.l.length:=(List.getElem?_eq_some_iff.1 hk).1
   have gh:=gv.2.2 k x.pure (by show(v.l.map Hd.pure)[k]?=_;rw[List.getElem?_map,hk];rfl)
   obtain⟨np,hnp,hps,hst⟩:=gh.ps
   have hnp2:np≤2:=har.2.2 np (mog hnp)
   have hps:x.ps=nms 112 np:=hps
   have hst:∀s∈St.pL x.body,StE ct np 3 s:=hst
   have hcn:PS.cntL (St.pL x.body)≤12:=gh.cnt
   have hbl:(St.pL x.body).length=x.body.length:=by rw[St.pm,List.length_map]
   have hb:=cnt_le (St.pL x.body)
   refine⟨by have h1:x.name=nm 104 k:=gh.name;rw[h1];exact isNm_h om,by rw[hps,nms_len];exact hnp2,fun p hp=>?_,by omega,PS.lowL_of fun s hs=>(hst s hs).low ok.ok (Nat.le_trans (cnt_mem hs) hcn),PS.fineL_of fun s hs=>((hst s hs).fine ok.ok hnp2).1,hcn,PS.sdepL_le fun s hs=>((hst s hs).fine ok.ok hnp2).2⟩
   rw[hps]at hp
   obtain⟨j,hj,rfl⟩:=nms_mem hp
   exact isNm_p om
theorem GoodX.low{F:Fl}(h:GoodX F):LowF F:=⟨h.flags,h.links,h.comps,fun c hc=>⟨(h.comp c hc).vars,fun v hv=>by
 rcases((h.comp c hc).var v hv).2 with h1|h1<;>omega⟩,fun c hc=>⟨(h.comp c hc).vers2,fun v hv=>⟨((h.comp c hc).ver v hv).1,fun x hx=>by
  have g:=((h.comp c hc).ver v hv).2 x hx
  exact⟨g.ps,g.len,g.low⟩⟩⟩⟩
theorem Rd.lenMap{P:Program}{o:Oper}{ρ:Slots}{Γ:List Chunk}{x:Operand}{κ β:Type} [DecidableEq κ]{ek:κ→Value}{evl:β→Value}{b i:Nat}{m:List (κ×β)}{t K E:TypeId}(ho:o.op= .call {callee:= .builtin .len,args:=#[x],argTypes:=#[t]})(ht:P.underlying t=some (.map K E))(hx:ev ρ x=some (.map (some b)))(hi:Γ[i]?=some (mapc ek evl b m)):Rd P o ρ Γ (nv m.length):=fun a w ha hs=>by
 obtain⟨es,clock,h1,h2⟩:=hs _ (mog hi)
 have h3:es.size=m.length:=by
  have:=congrArg List.length h2
  unfold entries pairs at this
  rwa[List.length_map,List.length_map,Array.length_toList]at this
 unfold execOp
 simp[ho,resolve,invoke,builtin,ha.eval hx,Builtin.len_,run_underlying ht,getObj,Sem.run,h1,h3,goInt]
theorem aset_len{κ β:Type} [DecidableEq κ](x:κ)(v:β):∀m:List (κ×β),(aset m x v).length≤m.length+1
 |[]=>Nat.le_refl _
 | p::r=>by
   have:=aset_len x v r
   unfold aset
   split
   ·exact Nat.le_succ _
   ·show(aset r x v).length+1≤r.length+1+1;omega
theorem qsmallH_fn(h:Hd)(hg:h.Good):
    Dz 112 [.agg (encH h).toArray] [all (h.kids eX),glc] (fun v Γ'=>v= .bool true∧Γ'=[]):=by
 refine Does.en func112 ntmps112 fun w0=>?_
 refine To.s (To.g (To.bo fun b1=>?_))
 refine To.z 5 ?_
 refine To.part 1 rfl (lsG encX encT h.Ab h.body) (lsG_lax _ _ _ _) (Hd.body_k (k:=eX)) (To.z 4 ?_)
 refine To.r (Rd.as (v':= .bool false) (congrArg Value.bool (decide_eq_false (by have:=hg.ps;omega))) (Rd.gtr rfl rfl rfl)) ?_
 refine To.z 3 ?_
 refine To.cQ rfl rfl rfl (Ent.fn rfl rfl ca29) (qcnt_fn h.body h.Ab h.qb hg.len hg.low (Nat.le_trans hg.cnt (by decide))) (by show owns (lsG encX encT h.Ab h.body)++[]=[];rw[(lsG_lax encX encT h.Ab h.body).owns];rfl) (ocs (oca 0 rfl) (ocn _)) ?_
 rintro _ _ ⟨rfl,rfl⟩
 refine⟨rfl,?_⟩
 refine To.r (Rd.as (v':= .bool false) (congrArg Value.bool (decide_eq_false (by have:=hg.cnt;omega))) (Rd.gtr rfl rfl rfl)) ?_
 refine To.z 4 ?_
 refine To.cQ rfl rfl rfl (Ent.fn rfl rfl ca178) (qsdep_fn h.body h.Ab h.qb hg.len hg.low (Nat.le_trans hg.dep (by decide))) (by show owns (lsG encX encT h.Ab h.body)++[]=[];rw[(lsG_lax encX encT h.Ab h.body).owns];rfl) (ocs (oca 0 rfl) (ocn _)) ?_
 rintro _ _ ⟨rfl,rfl⟩
 refine⟨rfl,?_⟩
 refine To.r (Rd.as (v':= .bool false) (congrArg Value.bool (decide_eq_false (by have:=hg.dep;omega))) (Rd.gtr rfl rfl rfl)) ?_
 refine To.z 10 ?_
 refine To.cQ rfl rfl rfl (Ent.fn rfl rfl ca115) (qesS_fn h.body h.Ab h.qb hg.len hg.low hg.fine) (by show owns (lsG encX encT h.Ab h.body)++(owns gl++[])=[];rw[(lsG_lax encX encT h.Ab h.body).owns];rfl) (ocs (oca 0 rfl) (ocs (oca 3 rfl) (ocn _))) ?_
 rintro _ _ ⟨rfl,rfl⟩
 refine⟨rfl,?_⟩
 refine To.z 4 ?_
 refine To.del3 (To.del2 (To.del1 (To.del0 (To.e1 results112 ?_))))
 exact⟨rfl,rfl⟩
theorem qnamedH_fn(h:Hd)(hg:h.Good):
    Dz 114 [.agg (encH h).toArray] [all (h.kids eX),glc] (fun v Γ'=>v= .bool true∧Γ'=[]):=by
 have hps2:=hg.ps
 refine Does.en func114 ntmps114 fun w0=>?_
 refine To.s (To.g (To.bo fun b1=>?_))
 refine To.z 7 ?_
 refine To.cV rfl rfl rfl (Ent.fn rfl rfl ca113) (isname_fn hg.nm) rfl (oks_gl 2 rfl) (To.z 5 ?_)
 refine To.part 1 rfl (lsG encX encT h.Ab h.body) (lsG_lax _ _ _ _) (Hd.body_k (k:=eX)) (To.one 2 rfl (ros encZ h.Ap h.ps) rfl (Hd.ps_k) (To.z 8 ?_))
 refine To.del3 (To.up2 (To.loopS (fun mz ρ Γ=>∃(k:Nat),ρ=[(1,pv b1),(3, .bool true),(10,vs h.Ap h.ps h.qp),(11,nv h.ps.length),(12,nv k)]∧Γ=[box b1 [.string h.name,vs h.Ap h.ps h.qp,vs h.Ab h.body h.qb] 77,ros encZ h.Ap h.ps,all (lsG encX encT h.Ab h.body),glc]∧mz=h.ps.length-k∧(k≤h.ps.length)) (h.ps.length-0) ⟨⟨0,rfl,rfl,rfl,(Nat.zero_le _)⟩,sb⟩ ?_))
 rintro mz _ _ ⟨k,rfl,rfl,rfl,hk⟩
 refine To.z 6 ?_
 refine To.cp rfl (fun c13=>?_) (fun c13=>?_)
 obtain⟨p,hp⟩:=exg h.ps k om
 refine To.z 15 ?_
 refine To.cV rfl rfl rfl (Ent.fn rfl rfl ca113) (isname_fn (hg.psn p (mog hp))) rfl (oks_gl 3 rfl) (To.z 10 ?_)
 refine To.agS (h.ps.length-(k+1)) om ⟨⟨k+1,rfl,rfl,rfl,om⟩,sb⟩
 refine To.z 11 ?_
 refine To.cQ rfl rfl rfl (Ent.fn rfl rfl ca115) (qesN_fn h.body h.Ab h.qb hg.len hg.low hg.fine) (by show owns (lsG encX encT h.Ab h.body)++(owns gl++[])=[];rw[(lsG_lax encX encT h.Ab h.body).owns];rfl) (ocs (oca 2 rfl) (ocs (oca 3 rfl) (ocn _))) ?_
 rintro _ _ ⟨rfl,rfl⟩
 refine⟨rfl,?_⟩
 refine To.z 5 ?_
 refine To.del3 (To.del2 (To.del1 (To.del0 (To.e1 results114 ?_))))
 exact⟨rfl,rfl⟩
theorem qformedH_fn(h:Hd)(hg:h.Good):
    Dz 118 [.agg (encH h).toArray] [all (h.kids eX),glc] (fun v Γ'=>v= .bool true∧Γ'=[]):=by
 refine Does.en func118 ntmps118 fun w0=>?_
 refine To.s (To.g (To.bo fun b1=>?_))
 refine To.z 4 ?_
 refine To.part 1 rfl (lsG encX encT h.Ab h.body) (lsG_lax _ _ _ _) (Hd.body_k (k:=eX)) (To.z 3 ?_)
 refine To.cQ rfl rfl rfl (Ent.fn rfl rfl ca115) (qesF_fn h.body h.Ab h.qb hg.len hg.low hg.fine) (by show owns (lsG encX encT h.Ab h.body)++(owns gl++[])=[];rw[(lsG_lax encX encT h.Ab h.body).owns];rfl) (ocs (oca 0 rfl) (ocs (oca 3 rfl) (ocn _))) ?_
 rintro _ _ ⟨rfl,rfl⟩
 refine⟨rfl,?_⟩
 refine To.z 4 ?_
 refine To.del3 (To.del2 (To.del1 (To.del0 (To.e1 results118 ?_))))
 exact⟨rfl,rfl⟩
theorem qehS_fn(F:Fl)(hF:GoodX F):
    Dz 111 [.agg (cF F []).toArray, .func (.func 112) #[] #[]] [all (F.kids eX),glc] (fun v Γ'=>v= .bool true∧Γ'=[]):=by
 have hFc:=hF.comps
 refine Does.en func111 ntmps111 fun w0=>?_
 refine To.s (To.g (To.bo fun b2=>?_))
 refine To.z 5 ?_
 refine To.one 1 rfl (ros encC F.Ac F.comps) rfl (Fl.comps_k (k:=eX)) (To.z 8 ?_)
 refine To.del1 (To.loopS (fun mz ρ Γ=>∃(k:Nat),ρ=[(1, .func (.func 112) #[] #[]),(12,vs F.Ac F.comps F.qc),(13,nv F.comps.length),(14,nv k)]∧Γ=[ros encC F.Ac F.comps,all (F.kids eX),glc]∧mz=F.comps.length-k∧(k≤F.comps.length)) (F.comps.length-0) ⟨⟨0,rfl,rfl,rfl,(Nat.zero_le _)⟩,sb⟩ ?_)
 rintro mz _ _ ⟨k,rfl,rfl,rfl,hk⟩
 refine To.z 6 ?_
 refine To.cp rfl (fun c15=>?_) (fun c15=>?_)
 obtain⟨c,hc⟩:=exg F.comps k om
 have hcg:=hF.comp c (mog hc)
 have hcv:=hcg.vers2
 have hcv1:=hcg.vers1
 have hcr:=hcg.vars
 refine To.z 8 ?_
 refine To.al fun b6=>?_
 refine To.z 4 ?_
 refine To.part 2 rfl (c.kids eX) (Cm.lax eX c) (Fl.comp_k hc) (To.one 0 rfl (ros encVs c.An c.vers) rfl (Cm.vers_k (k:=eX)) (To.z 8 ?_))
 refine To.del2 (To.up4 (To.up4 (To.up4 (To.loopS (fun mz ρ Γ=>∃(j:Nat),ρ=[(1, .func (.func 112) #[] #[]),(12,vs F.Ac F.comps F.qc),(13,nv F.comps.length),(14,nv k),(19,vs c.An c.vers c.qn),(20,nv c.vers.length),(21,nv j)]∧Γ=[ros encC F.Ac F.comps,all (F.kids eX),glc,ros encVs c.An c.vers,all (c.kids eX)]∧mz=c.vers.length-j∧(j≤c.vers.length)) (c.vers.length-0) ⟨⟨0,rfl,rfl,rfl,(Nat.zero_le _)⟩,sb⟩ ?_))))
 rintro mz _ _ ⟨j,rfl,rfl,rfl,hj⟩
 refine To.z 6 ?_
 refine To.cp rfl (fun c22=>?_) (fun c22=>?_)
 obtain⟨v,hv⟩:=exg c.vers j om
 have hvg:=hcg.ver v (mog hv)
 have hvl:=hvg.1
 refine To.z 8 ?_
 refine To.al fun b8=>?_
 refine To.z 4 ?_
 refine To.part 5 rfl (v.kids eX) (Vs.lax eX v) (Cm.ver_k hv) (To.one 0 rfl (ros encH v.A v.l) rfl (Vs.l_k (k:=eX)) (To.z 8 ?_))
 refine To.del2 (To.up6 (To.up6 (To.up6 (To.up6 (To.up6 (To.loopS (fun mz ρ Γ=>∃(i:Nat),ρ=[(1, .func (.func 112) #[] #[]),(12,vs F.Ac F.comps F.qc),(13,nv F.comps.length),(14,nv k),(19,vs c.An c.vers c.qn),(20,nv c.vers.length),(21,nv j),(26,vs v.A v.l v.q),(27,nv v.l.length),(28,nv i)]∧Γ=[ros encC F.Ac F.comps,all (F.kids eX),glc,ros encVs c.An c.vers,all (c.kids eX),ros encH v.A v.l,all (v.kids eX)]∧mz=v.l.length-i∧(i≤v.l.length)) (v.l.length-0) ⟨⟨0,rfl,rfl,rfl,(Nat.zero_le _)⟩,sb⟩ ?_))))))
 rintro mz _ _ ⟨i,rfl,rfl,rfl,hi⟩
 refine To.z 6 ?_
 refine To.cp rfl (fun c29=>?_) (fun c29=>?_)
 obtain⟨h,hh⟩:=exg v.l i om
 have hg:=hvg.2 h (mog hh)
 refine To.z 8 ?_
 refine To.al fun b10=>?_
 refine To.z 4 ?_
 refine To.part 7 rfl (h.kids eX) (Hd.lax eX h) (Vs.hd_k hh) (To.z 3 ?_)
 refine To.cQ rfl rfl rfl (Ent.func (first:=[]) (captured:=[]) rfl rfl rfl ca112) (qsmallH_fn h hg) (by show owns (h.kids eX)++(owns gl++[])=[];rw[(Hd.lax eX h).owns];rfl) (ocs (oca 0 rfl) (ocs (oca 4 rfl) (ocn _))) ?_
 rintro _ _ ⟨rfl,rfl⟩
 refine⟨rfl,?_⟩
 refine To.z 12 ?_
 refine To.del1 (To.del0 (To.agS (v.l.length-(i+1)) om ⟨⟨i+1,rfl,rfl,rfl,om⟩,sb⟩))
 refine To.z 11 ?_
 refine To.del6 (To.del5 (To.agS (c.vers.length-(j+1)) om ⟨⟨j+1,rfl,rfl,rfl,om⟩,sb⟩))
 refine To.z 11 ?_
 refine To.del4 (To.del3 (To.agS (F.comps.length-(k+1)) om ⟨⟨k+1,rfl,rfl,rfl,om⟩,sb⟩))
 refine To.z 11 ?_
 refine To.del2 (To.del1 (To.del0 (To.e1 results111 ?_)))
 exact⟨rfl,rfl⟩
theorem qehN_fn(F:Fl)(hF:GoodX F):
    Dz 111 [.agg (cF F []).toArray, .func (.func 114) #[] #[]] [all (F.kids eX),glc] (fun v Γ'=>v= .bool true∧Γ'=[]):=by
 have hFc:=hF.comps
 refine Does.en func111 ntmps111 fun w0=>?_
 refine To.s (To.g (To.bo fun b2=>?_))
 refine To.z 5 ?_
 refine To.one 1 rfl (ros encC F.Ac F.comps) rfl (Fl.comps_k (k:=eX)) (To.z 8 ?_)
 refine To.del1 (To.loopS (fun mz ρ Γ=>∃(k:Nat),ρ=[(1, .func (.func 114) #[] #[]),(12,vs F.Ac F.comps F.qc),(13,nv F.comps.length),(14,nv k)]∧Γ=[ros encC F.Ac F.comps,all (F.kids eX),glc]∧mz=F.comps.length-k∧(k≤F.comps.length)) (F.comps.length-0) ⟨⟨0,rfl,rfl,rfl,(Nat.zero_le _)⟩,sb⟩ ?_)
 rintro mz _ _ ⟨k,rfl,rfl,rfl,hk⟩
 refine To.z 6 ?_
 refine To.cp rfl (fun c15=>?_) (fun c15=>?_)
 obtain⟨c,hc⟩:=exg F.comps k om
 have hcg:=hF.comp c (mog hc)
 have hcv:=hcg.vers2
 have hcv1:=hcg.vers1
 have hcr:=hcg.vars
 refine To.z 8 ?_
 refine To.al fun b6=>?_
 refine To.z 4 ?_
 refine To.part 2 rfl (c.kids eX) (Cm.lax eX c) (Fl.comp_k hc) (To.one 0 rfl (ros encVs c.An c.vers) rfl (Cm.vers_k (k:=eX)) (To.z 8 ?_))
 refine To.del2 (To.up4 (To.up4 (To.up4 (To.loopS (fun mz ρ Γ=>∃(j:Nat),ρ=[(1, .func (.func 114) #[] #[]),(12,vs F.Ac F.comps F.qc),(13,nv F.comps.length),(14,nv k),(19,vs c.An c.vers c.qn),(20,nv c.vers.length),(21,nv j)]∧Γ=[ros encC F.Ac F.comps,all (F.kids eX),glc,ros encVs c.An c.vers,all (c.kids eX)]∧mz=c.vers.length-j∧(j≤c.vers.length)) (c.vers.length-0) ⟨⟨0,rfl,rfl,rfl,(Nat.zero_le _)⟩,sb⟩ ?_))))
 rintro mz _ _ ⟨j,rfl,rfl,rfl,hj⟩
 refine To.z 6 ?_
 refine To.cp rfl (fun c22=>?_) (fun c22=>?_)
 obtain⟨v,hv⟩:=exg c.vers j om
 have hvg:=hcg.ver v (mog hv)
 have hvl:=hvg.1
 refine To.z 8 ?_
 refine To.al fun b8=>?_
 refine To.z 4 ?_
 refine To.part 5 rfl (v.kids eX) (Vs.lax eX v) (Cm.ver_k hv) (To.one 0 rfl (ros encH v.A v.l) rfl (Vs.l_k (k:=eX)) (To.z 8 ?_))
 refine To.del2 (To.up6 (To.up6 (To.up6 (To.up6 (To.up6 (To.loopS (fun mz ρ Γ=>∃(i:Nat),ρ=[(1, .func (.func 114) #[] #[]),(12,vs F.Ac F.comps F.qc),(13,nv F.comps.length),(14,nv k),(19,vs c.An c.vers c.qn),(20,nv c.vers.length),(21,nv j),(26,vs v.A v.l v.q),(27,nv v.l.length),(28,nv i)]∧Γ=[ros encC F.Ac F.comps,all (F.kids eX),glc,ros encVs c.An c.vers,all (c.kids eX),ros encH v.A v.l,all (v.kids eX)]∧mz=v.l.length-i∧(i≤v.l.length)) (v.l.length-0) ⟨⟨0,rfl,rfl,rfl,(Nat.zero_le _)⟩,sb⟩ ?_))))))
 rintro mz _ _ ⟨i,rfl,rfl,rfl,hi⟩
 refine To.z 6 ?_
 refine To.cp rfl (fun c29=>?_) (fun c29=>?_)
 obtain⟨h,hh⟩:=exg v.l i om
 have hg:=hvg.2 h (mog hh)
 refine To.z 8 ?_
 refine To.al fun b10=>?_
 refine To.z 4 ?_
 refine To.part 7 rfl (h.kids eX) (Hd.lax eX h) (Vs.hd_k hh) (To.z 3 ?_)
 refine To.cQ rfl rfl rfl (Ent.func (first:=[]) (captured:=[]) rfl rfl rfl ca114) (qnamedH_fn h hg) (by show owns (h.kids eX)++(owns gl++[])=[];rw[(Hd.lax eX h).owns];rfl) (ocs (oca 0 rfl) (ocs (oca 4 rfl) (ocn _))) ?_
 rintro _ _ ⟨rfl,rfl⟩
 refine⟨rfl,?_⟩
 refine To.z 12 ?_
 refine To.del1 (To.del0 (To.agS (v.l.length-(i+1)) om ⟨⟨i+1,rfl,rfl,rfl,om⟩,sb⟩))
 refine To.z 11 ?_
 refine To.del6 (To.del5 (To.agS (c.vers.length-(j+1)) om ⟨⟨j+1,rfl,rfl,rfl,om⟩,sb⟩))
 refine To.z 11 ?_
 refine To.del4 (To.del3 (To.agS (F.comps.length-(k+1)) om ⟨⟨k+1,rfl,rfl,rfl,om⟩,sb⟩))
 refine To.z 11 ?_
 refine To.del2 (To.del1 (To.del0 (To.e1 results111 ?_)))
 exact⟨rfl,rfl⟩
theorem qehF_fn(F:Fl)(hF:GoodX F):
    Dz 111 [.agg (cF F []).toArray, .func (.func 118) #[] #[]] [all (F.kids eX),glc] (fun v Γ'=>v= .bool true∧Γ'=[]):=by
 have hFc:=hF.comps
 refine Does.en func111 ntmps111 fun w0=>?_
 refine To.s (To.g (To.bo fun b2=>?_))
 refine To.z 5 ?_
 refine To.one 1 rfl (ros encC F.Ac F.comps) rfl (Fl.comps_k (k:=eX)) (To.z 8 ?_)
 refine To.del1 (To.loopS (fun mz ρ Γ=>∃(k:Nat),ρ=[(1, .func (.func 118) #[] #[]),(12,vs F.Ac F.comps F.qc),(13,nv F.comps.length),(14,nv k)]∧Γ=[ros encC F.Ac F.comps,all (F.kids eX),glc]∧mz=F.comps.length-k∧(k≤F.comps.length)) (F.comps.length-0) ⟨⟨0,rfl,rfl,rfl,(Nat.zero_le _)⟩,sb⟩ ?_)
 rintro mz _ _ ⟨k,rfl,rfl,rfl,hk⟩
 refine To.z 6 ?_
 refine To.cp rfl (fun c15=>?_) (fun c15=>?_)
 obtain⟨c,hc⟩:=exg F.comps k om
 have hcg:=hF.comp c (mog hc)
 have hcv:=hcg.vers2
 have hcv1:=hcg.vers1
 have hcr:=hcg.vars
 refine To.z 8 ?_
 refine To.al fun b6=>?_
 refine To.z 4 ?_
 refine To.part 2 rfl (c.kids eX) (Cm.lax eX c) (Fl.comp_k hc) (To.one 0 rfl (ros encVs c.An c.vers) rfl (Cm.vers_k (k:=eX)) (To.z 8 ?_))
 refine To.del2 (To.up4 (To.up4 (To.up4 (To.loopS (fun mz ρ Γ=>∃(j:Nat),ρ=[(1, .func (.func 118) #[] #[]),(12,vs F.Ac F.comps F.qc),(13,nv F.comps.length),(14,nv k),(19,vs c.An c.vers c.qn),(20,nv c.vers.length),(21,nv j)]∧Γ=[ros encC F.Ac F.comps,all (F.kids eX),glc,ros encVs c.An c.vers,all (c.kids eX)]∧mz=c.vers.length-j∧(j≤c.vers.length)) (c.vers.length-0) ⟨⟨0,rfl,rfl,rfl,(Nat.zero_le _)⟩,sb⟩ ?_))))
 rintro mz _ _ ⟨j,rfl,rfl,rfl,hj⟩
 refine To.z 6 ?_
 refine To.cp rfl (fun c22=>?_) (fun c22=>?_)
 obtain⟨v,hv⟩:=exg c.vers j om
 have hvg:=hcg.ver v (mog hv)
 have hvl:=hvg.1
 refine To.z 8 ?_
 refine To.al fun b8=>?_
 refine To.z 4 ?_
 refine To.part 5 rfl (v.kids eX) (Vs.lax eX v) (Cm.ver_k hv) (To.one 0 rfl (ros encH v.A v.l) rfl (Vs.l_k (k:=eX)) (To.z 8 ?_))
 refine To.del2 (To.up6 (To.up6 (To.up6 (To.up6 (To.up6 (To.loopS (fun mz ρ Γ=>∃(i:Nat),ρ=[(1, .func (.func 118) #[] #[]),(12,vs F.Ac F.comps F.qc),(13,nv F.comps.length),(14,nv k),(19,vs c.An c.vers c.qn),(20,nv c.vers.length),(21,nv j),(26,vs v.A v.l v.q),(27,nv v.l.length),(28,nv i)]∧Γ=[ros encC F.Ac F.comps,all (F.kids eX),glc,ros encVs c.An c.vers,all (c.kids eX),ros encH v.A v.l,all (v.kids eX)]∧mz=v.l.length-i∧(i≤v.l.length)) (v.l.length-0) ⟨⟨0,rfl,rfl,rfl,(Nat.zero_le _)⟩,sb⟩ ?_))))))
 rintro mz _ _ ⟨i,rfl,rfl,rfl,hi⟩
 refine To.z 6 ?_
 refine To.cp rfl (fun c29=>?_) (fun c29=>?_)
 obtain⟨h,hh⟩:=exg v.l i om
 have hg:=hvg.2 h (mog hh)
 refine To.z 8 ?_
 refine To.al fun b10=>?_
 refine To.z 4 ?_
 refine To.part 7 rfl (h.kids eX) (Hd.lax eX h) (Vs.hd_k hh) (To.z 3 ?_)
 refine To.cQ rfl rfl rfl (Ent.func (first:=[]) (captured:=[]) rfl rfl rfl ca118) (qformedH_fn h hg) (by show owns (h.kids eX)++(owns gl++[])=[];rw[(Hd.lax eX h).owns];rfl) (ocs (oca 0 rfl) (ocs (oca 4 rfl) (ocn _))) ?_
 rintro _ _ ⟨rfl,rfl⟩
 refine⟨rfl,?_⟩
 refine To.z 12 ?_
 refine To.del1 (To.del0 (To.agS (v.l.length-(i+1)) om ⟨⟨i+1,rfl,rfl,rfl,om⟩,sb⟩))
 refine To.z 11 ?_
 refine To.del6 (To.del5 (To.agS (c.vers.length-(j+1)) om ⟨⟨j+1,rfl,rfl,rfl,om⟩,sb⟩))
 refine To.z 11 ?_
 refine To.del4 (To.del3 (To.agS (F.comps.length-(k+1)) om ⟨⟨k+1,rfl,rfl,rfl,om⟩,sb⟩))
 refine To.z 11 ?_
 refine To.del2 (To.del1 (To.del0 (To.e1 results111 ?_)))
 exact⟨rfl,rfl⟩
theorem qfvar_fn(y:Vr)(hy:okVr y):
    Dz 117 [.agg (encVx y).toArray] [] (fun v _=>v= .bool true):=by
 refine Does.en func117 ntmps117 fun w0=>?_
 refine To.s (To.g (To.bo fun b1=>?_))
 refine To.z 17 ?_
 refine To.cp rfl (fun c5=>?_) (fun c5=>?_)
 have hv2:=hy.2
 refine To.z 4 ?_
 refine To.r (Rd.as (v':= .bool true) (congrArg Value.bool (decide_eq_true (by intro h;omega))) (Rd.neq rfl rfl rfl)) ?_
 refine To.z 6 ?_
 refine To.del0 (To.e1 results117 ?_)
 rfl
 refine To.z 6 ?_
 refine To.cp rfl (fun c10=>?_) (fun c10=>?_)
 have hv2:=hy.2
 refine To.z 4 ?_
 refine To.r (Rd.as (v':= .bool true) (congrArg Value.bool (decide_eq_true om)) (Rd.eql rfl rfl rfl)) ?_
 refine To.z 11 ?_
 refine To.del0 (To.e1 results117 ?_)
 rfl
 refine To.z 6 ?_
 refine To.cp rfl (fun c20=>?_) (fun c20=>?_)
 have hv2:=hy.2
 refine To.z 4 ?_
 refine To.r (Rd.as (v':= .bool true) (congrArg Value.bool (decide_eq_true om)) (Rd.eql rfl rfl rfl)) ?_
 refine To.z 6 ?_
 refine To.del0 (To.e1 results117 ?_)
 rfl
 exfalso;rcases hy.2 with h|h<;>omega
theorem qformed_fn(F:Fl)(hF:GoodX F):
    Dz 64 [.agg (cF F []).toArray] [all (F.kids eX),glc] (fun v Γ'=>v= .bool true∧Γ'=[]):=by
 have hFc:=hF.comps
 have hFl:=hF.links
 refine Does.en func64 ntmps64 fun w0=>?_
 refine To.s (To.g (To.bo fun b1=>?_))
 refine To.z 5 ?_
 refine To.one 1 rfl (ros encLk F.Al F.links) rfl (Fl.links_k (k:=eX)) (To.z 8 ?_)
 refine To.up1 (To.loopS (fun mz ρ Γ=>∃(kz:Nat),ρ=[(1,pv b1),(10,vs F.Al F.links F.ql),(11,nv F.links.length),(12,nv kz)]∧Γ=[box b1 (cF F []) 62,ros encLk F.Al F.links,all (F.kids eX),glc]∧mz=F.links.length-kz∧(kz≤F.links.length)) (F.links.length-0) ⟨⟨0,rfl,rfl,rfl,(Nat.zero_le _)⟩,sb⟩ ?_)
 rintro mz _ _ ⟨kz,rfl,rfl,rfl,hkz⟩
 refine To.z 6 ?_
 refine To.cp rfl (fun c13=>?_) (fun c13=>?_)
 obtain⟨z,hz⟩:=exg F.links kz om
 have hzl:=hF.link z (mog hz)
 have hz1:=hzl.2.2.1
 have hz2:=hzl.2.2.2
 refine To.z 8 ?_
 refine To.al fun b4=>?_
 refine To.z 7 ?_
 refine To.r (Rd.as (v':= .bool false) (congrArg Value.bool (decide_eq_false om)) (Rd.lss rfl rfl rfl)) ?_
 refine To.z 3 ?_
 refine To.r (Rd.as (v':= .bool false) (congrArg Value.bool (decide_eq_false om)) (Rd.gtr rfl rfl rfl)) ?_
 refine To.z 12 ?_
 refine To.del0 (To.agS (F.links.length-(kz+1)) om ⟨⟨kz+1,rfl,rfl,rfl,om⟩,sb⟩)
 refine To.z 7 ?_
 refine To.one 2 rfl (ros encC F.Ac F.comps) rfl (Fl.comps_k (k:=eX)) (To.z 8 ?_)
 refine To.del2 (To.up1 (To.loopS (fun mz ρ Γ=>∃(k:Nat),ρ=[(1,pv b1),(26,vs F.Ac F.comps F.qc),(27,nv F.comps.length),(28,nv k)]∧Γ=[box b1 (cF F []) 62,ros encC F.Ac F.comps,all (F.kids eX),glc]∧mz=F.comps.length-k∧(k≤F.comps.length)) (F.comps.length-0) ⟨⟨0,rfl,rfl,rfl,(Nat.zero_le _)⟩,sb⟩ ?_))
 rintro mz _ _ ⟨k,rfl,rfl,rfl,hk⟩
 refine To.z 6 ?_
 refine To.cp rfl (fun c29=>?_) (fun c29=>?_)
 obtain⟨c,hc⟩:=exg F.comps k om
 have hcg:=hF.comp c (mog hc)
 have hcv:=hcg.vers2
 have hcv1:=hcg.vers1
 have hcr:=hcg.vars
 refine To.z 8 ?_
 refine To.al fun b6=>?_
 refine To.z 4 ?_
 refine To.part 3 rfl (c.kids eX) (Cm.lax eX c) (Fl.comp_k hc) (To.one 0 rfl (ros encVx c.Av c.vars) rfl (Cm.vars_k (k:=eX)) (To.z 8 ?_))
 refine To.del2 (To.up5 (To.up5 (To.up5 (To.up5 (To.loopS (fun mz ρ Γ=>∃(j:Nat),ρ=[(1,pv b1),(26,vs F.Ac F.comps F.qc),(27,nv F.comps.length),(28,nv k),(33,vs c.Av c.vars c.qv),(34,nv c.vars.length),(35,nv j)]∧Γ=[box b1 (cF F []) 62,ros encC F.Ac F.comps,all (F.kids eX),glc,ros encVx c.Av c.vars,all (c.kids eX)]∧mz=c.vars.length-j∧(j≤c.vars.length)) (c.vars.length-0) ⟨⟨0,rfl,rfl,rfl,(Nat.zero_le _)⟩,sb⟩ ?_)))))
 rintro mz _ _ ⟨j,rfl,rfl,rfl,hj⟩
 refine To.z 6 ?_
 refine To.cp rfl (fun c36=>?_) (fun c36=>?_)
 obtain⟨y,hy⟩:=exg c.vars j om
 refine To.z 8 ?_
 refine To.al fun b8=>?_
 refine To.z 6 ?_
 refine To.cV rfl rfl rfl (Ent.fn rfl rfl ca117) (qfvar_fn y (hcg.var y (mog hy))) rfl (ocn _) (To.z 12 ?_)
 refine To.del0 (To.agS (c.vars.length-(j+1)) om ⟨⟨j+1,rfl,rfl,rfl,om⟩,sb⟩)
 refine To.z 11 ?_
 refine To.del5 (To.del4 (To.agS (F.comps.length-(k+1)) om ⟨⟨k+1,rfl,rfl,rfl,om⟩,sb⟩))
 refine To.z 8 ?_
 refine To.cQ rfl rfl rfl (Ent.fn rfl rfl ca111) (qehF_fn F hF) (by show owns (F.kids eX)++(owns gl++[])=[];rw[(Fl.lax eX F).owns];rfl) (ocs (oca 2 rfl) (ocs (oca 3 rfl) (ocn _))) ?_
 rintro _ _ ⟨rfl,rfl⟩
 refine⟨rfl,?_⟩
 refine To.z 4 ?_
 refine To.del3 (To.del2 (To.del1 (To.del0 (To.e1 results64 ?_))))
 exact⟨rfl,rfl⟩
theorem qnamed_fn(F:Fl)(hF:GoodX F):
    Dz 63 [.agg (cF F []).toArray] [all (F.kids eX),glc] (fun v Γ'=>v= .bool true∧Γ'=[]):=by
 have hFc:=hF.comps
 have hFl:=hF.links
 have hFf:=hF.flags
 refine Does.en func63 ntmps63 fun w0=>?_
 refine To.s (To.g (To.bo fun b1=>?_))
 refine To.z 7 ?_
 refine To.cV rfl rfl rfl (Ent.fn rfl rfl ca113) (isname_fn hF.nm) rfl (oks_gl 2 rfl) (To.z 5 ?_)
 refine To.one 1 rfl (ros encFg F.Af F.flags) rfl (Fl.flags_k (k:=eX)) (To.z 8 ?_)
 refine To.up1 (To.loopS (fun mz ρ Γ=>∃(f0:Nat),ρ=[(1,pv b1),(3, .bool true),(16,vs F.Af F.flags F.qf),(17,nv F.flags.length),(18,nv f0)]∧Γ=[box b1 (cF F []) 62,ros encFg F.Af F.flags,all (F.kids eX),glc]∧mz=F.flags.length-f0∧(f0≤F.flags.length)) (F.flags.length-0) ⟨⟨0,rfl,rfl,rfl,(Nat.zero_le _)⟩,sb⟩ ?_)
 rintro mz _ _ ⟨f0,rfl,rfl,rfl,hf0⟩
 refine To.z 6 ?_
 refine To.cp rfl (fun c19=>?_) (fun c19=>?_)
 obtain⟨x,hx⟩:=exg F.flags f0 om
 refine To.z 8 ?_
 refine To.al fun b5=>?_
 refine To.z 8 ?_
 refine To.cV rfl rfl rfl (Ent.fn rfl rfl ca113) (isname_fn (hF.flag x (mog hx))) rfl (oks_gl 4 rfl) (To.z 10 ?_)
 refine To.del0 (To.agS (F.flags.length-(f0+1)) om ⟨⟨f0+1,rfl,rfl,rfl,om⟩,sb⟩)
 refine To.z 7 ?_
 refine To.one 2 rfl (ros encLk F.Al F.links) rfl (Fl.links_k (k:=eX)) (To.z 8 ?_)
 refine To.del2 (To.up1 (To.loopS (fun mz ρ Γ=>∃(kz:Nat),ρ=[(1,pv b1),(3, .bool true),(30,vs F.Al F.links F.ql),(31,nv F.links.length),(32,nv kz)]∧Γ=[box b1 (cF F []) 62,ros encLk F.Al F.links,all (F.kids eX),glc]∧mz=F.links.length-kz∧(kz≤F.links.length)) (F.links.length-0) ⟨⟨0,rfl,rfl,rfl,(Nat.zero_le _)⟩,sb⟩ ?_))
 rintro mz _ _ ⟨kz,rfl,rfl,rfl,hkz⟩
 refine To.z 6 ?_
 refine To.cp rfl (fun c33=>?_) (fun c33=>?_)
 obtain⟨z,hz⟩:=exg F.links kz om
 have hzl:=hF.link z (mog hz)
 have hz1:=hzl.2.2.1
 have hz2:=hzl.2.2.2
 refine To.z 8 ?_
 refine To.al fun b7=>?_
 refine To.z 8 ?_
 refine To.cV rfl rfl rfl (Ent.fn rfl rfl ca113) (isname_fn hzl.1) rfl (oks_gl 4 rfl) (To.z 4 ?_)
 refine To.cV rfl rfl rfl (Ent.fn rfl rfl ca113) (isname_fn hzl.2.1) rfl (oks_gl 4 rfl) (To.z 10 ?_)
 refine To.del0 (To.agS (F.links.length-(kz+1)) om ⟨⟨kz+1,rfl,rfl,rfl,om⟩,sb⟩)
 refine To.z 7 ?_
 refine To.one 2 rfl (ros encC F.Ac F.comps) rfl (Fl.comps_k (k:=eX)) (To.z 8 ?_)
 refine To.del2 (To.up1 (To.loopS (fun mz ρ Γ=>∃(k:Nat),ρ=[(1,pv b1),(3, .bool true),(49,vs F.Ac F.comps F.qc),(50,nv F.comps.length),(51,nv k)]∧Γ=[box b1 (cF F []) 62,ros encC F.Ac F.comps,all (F.kids eX),glc]∧mz=F.comps.length-k∧(k≤F.comps.length)) (F.comps.length-0) ⟨⟨0,rfl,rfl,rfl,(Nat.zero_le _)⟩,sb⟩ ?_))
 rintro mz _ _ ⟨k,rfl,rfl,rfl,hk⟩
 refine To.z 6 ?_
 refine To.cp rfl (fun c52=>?_) (fun c52=>?_)
 obtain⟨c,hc⟩:=exg F.comps k om
 have hcg:=hF.comp c (mog hc)
 have hcv:=hcg.vers2
 have hcv1:=hcg.vers1
 have hcr:=hcg.vars
 refine To.z 8 ?_
 refine To.al fun b9=>?_
 refine To.z 9 ?_
 refine To.cV rfl rfl rfl (Ent.fn rfl rfl ca113) (isname_fn hcg.nm) rfl (oks_gl 4 rfl) (To.z 5 ?_)
 refine To.part 3 rfl (c.kids eX) (Cm.lax eX c) (Fl.comp_k hc) (To.one 0 rfl (ros encVx c.Av c.vars) rfl (Cm.vars_k (k:=eX)) (To.z 8 ?_))
 refine To.del2 (To.up5 (To.up5 (To.up5 (To.up5 (To.loopS (fun mz ρ Γ=>∃(j:Nat),ρ=[(1,pv b1),(3, .bool true),(49,vs F.Ac F.comps F.qc),(50,nv F.comps.length),(51,nv k),(62,vs c.Av c.vars c.qv),(63,nv c.vars.length),(64,nv j)]∧Γ=[box b1 (cF F []) 62,ros encC F.Ac F.comps,all (F.kids eX),glc,ros encVx c.Av c.vars,all (c.kids eX)]∧mz=c.vars.length-j∧(j≤c.vars.length)) (c.vars.length-0) ⟨⟨0,rfl,rfl,rfl,(Nat.zero_le _)⟩,sb⟩ ?_)))))
 rintro mz _ _ ⟨j,rfl,rfl,rfl,hj⟩
 refine To.z 6 ?_
 refine To.cp rfl (fun c65=>?_) (fun c65=>?_)
 obtain⟨y,hy⟩:=exg c.vars j om
 refine To.z 8 ?_
 refine To.al fun b11=>?_
 refine To.z 8 ?_
 refine To.cV rfl rfl rfl (Ent.fn rfl rfl ca113) (isname_fn (hcg.var y (mog hy)).1) rfl (oks_gl 4 rfl) (To.z 10 ?_)
 refine To.del0 (To.agS (c.vars.length-(j+1)) om ⟨⟨j+1,rfl,rfl,rfl,om⟩,sb⟩)
 refine To.z 11 ?_
 refine To.del5 (To.del4 (To.agS (F.comps.length-(k+1)) om ⟨⟨k+1,rfl,rfl,rfl,om⟩,sb⟩))
 refine To.z 10 ?_
 refine To.cQ rfl rfl rfl (Ent.fn rfl rfl ca111) (qehN_fn F hF) (by show owns (F.kids eX)++(owns gl++[])=[];rw[(Fl.lax eX F).owns];rfl) (ocs (oca 2 rfl) (ocs (oca 3 rfl) (ocn _))) ?_
 rintro _ _ ⟨rfl,rfl⟩
 refine⟨rfl,?_⟩
 refine To.z 5 ?_
 refine To.del3 (To.del2 (To.del1 (To.del0 (To.e1 results63 ?_))))
 exact⟨rfl,rfl⟩
theorem qsmall_fn(F:Fl)(hF:GoodX F):
    Dz 62 [.agg (cF F []).toArray] [all (F.kids eX),glc] (fun v Γ'=>v= .bool true∧Γ'=[]):=by
 have hFc:=hF.comps
 have hFc1:=hF.comps1
 have hFl:=hF.links
 have hFf:=hF.flags
 refine Does.en func62 ntmps62 fun w0=>?_
 refine To.s (To.g (To.bo fun b1=>?_))
 refine To.z 15 ?_
 refine To.r (Rd.as (v':= .bool false) (congrArg Value.bool (decide_eq_false om)) (Rd.eql rfl rfl rfl)) ?_
 refine To.z 2 ?_
 refine To.r (Rd.as (v':= .bool false) (congrArg Value.bool (decide_eq_false om)) (Rd.gtr rfl rfl rfl)) ?_
 refine To.z 5 ?_
 refine To.r (Rd.as (v':= .bool false) (congrArg Value.bool (decide_eq_false om)) (Rd.gtr rfl rfl rfl)) ?_
 refine To.z 5 ?_
 refine To.r (Rd.as (v':= .bool false) (congrArg Value.bool (decide_eq_false om)) (Rd.gtr rfl rfl rfl)) ?_
 refine To.z 8 ?_
 refine To.one 1 rfl (ros encC F.Ac F.comps) rfl (Fl.comps_k (k:=eX)) (To.z 8 ?_)
 refine To.up1 (To.loopS (fun mz ρ Γ=>∃(k:Nat),ρ=[(1,pv b1),(34,vs F.Ac F.comps F.qc),(35,nv F.comps.length),(36,nv k)]∧Γ=[box b1 (cF F []) 62,ros encC F.Ac F.comps,all (F.kids eX),glc]∧mz=F.comps.length-k∧(k≤F.comps.length)) (F.comps.length-0) ⟨⟨0,rfl,rfl,rfl,(Nat.zero_le _)⟩,sb⟩ ?_)
 rintro mz _ _ ⟨k,rfl,rfl,rfl,hk⟩
 refine To.z 6 ?_
 refine To.cp rfl (fun c37=>?_) (fun c37=>?_)
 obtain⟨c,hc⟩:=exg F.comps k om
 have hcg:=hF.comp c (mog hc)
 have hcv:=hcg.vers2
 have hcv1:=hcg.vers1
 have hcr:=hcg.vars
 refine To.z 8 ?_
 refine To.al fun b5=>?_
 refine To.z 17 ?_
 refine To.r (Rd.as (v':= .bool false) (congrArg Value.bool (decide_eq_false om)) (Rd.gtr rfl rfl rfl)) ?_
 refine To.z 2 ?_
 refine To.r (Rd.as (v':= .bool false) (congrArg Value.bool (decide_eq_false om)) (Rd.eql rfl rfl rfl)) ?_
 refine To.z 3 ?_
 refine To.r (Rd.as (v':= .bool false) (congrArg Value.bool (decide_eq_false om)) (Rd.gtr rfl rfl rfl)) ?_
 refine To.z 8 ?_
 refine To.mk rfl rfl rfl (Mk.makeMapOwn (fun s:ByteArray=>Value.string s) (fun b:Bool=>Value.bool b) rfl) ?_
 rintro _ _ ⟨m55,rfl,rfl⟩
 refine To.z 5 ?_
 refine To.part 4 rfl (c.kids eX) (Cm.lax eX c) (Fl.comp_k hc) (To.one 0 rfl (ros encVs c.An c.vers) rfl (Cm.vers_k (k:=eX)) (To.z 8 ?_))
 refine To.del3 (To.up6 (To.up6 (To.up6 (To.up6 (To.loopS (fun mz ρ Γ=>∃(mj:List (ByteArray×Bool)) (j:Nat),ρ=[(1,pv b1),(34,vs F.Ac F.comps F.qc),(35,nv F.comps.length),(36,nv k),(7, .map (some m55)),(57,vs c.An c.vers c.qn),(58,nv c.vers.length),(59,nv j)]∧Γ=[box b1 (cF F []) 62,ros encC F.Ac F.comps,all (F.kids eX),glc,ros encVs c.An c.vers,all (c.kids eX),mapc (fun s:ByteArray=>Value.string s) (fun b:Bool=>Value.bool b) m55 mj]∧mz=c.vers.length-j∧(j≤c.vers.length)∧(mj.length≤3*j)) (c.vers.length-0) ⟨⟨[],0,rfl,rfl,rfl,(Nat.zero_le _),(Nat.zero_le _)⟩,sb⟩ ?_)))))
 rintro mz _ _ ⟨mj,j,rfl,rfl,rfl,hj,hmj⟩
 refine To.z 6 ?_
 refine To.cp rfl (fun c60=>?_) (fun c60=>?_)
 obtain⟨v,hv⟩:=exg c.vers j om
 have hvg:=hcg.ver v (mog hv)
 have hvl:=hvg.1
 refine To.z 8 ?_
 refine To.al fun b9=>?_
 refine To.z 4 ?_
 refine To.part 6 rfl (v.kids eX) (Vs.lax eX v) (Cm.ver_k hv) (To.one 0 rfl (ros encH v.A v.l) rfl (Vs.l_k (k:=eX)) (To.z 8 ?_))
 refine To.del2 (To.up7 (To.up7 (To.up7 (To.up7 (To.up7 (To.up7 (To.loopS (fun mz ρ Γ=>∃(mi:List (ByteArray×Bool)) (i:Nat),ρ=[(1,pv b1),(34,vs F.Ac F.comps F.qc),(35,nv F.comps.length),(36,nv k),(7, .map (some m55)),(57,vs c.An c.vers c.qn),(58,nv c.vers.length),(59,nv j),(64,vs v.A v.l v.q),(65,nv v.l.length),(66,nv i)]∧Γ=[box b1 (cF F []) 62,ros encC F.Ac F.comps,all (F.kids eX),glc,ros encVs c.An c.vers,all (c.kids eX),ros encH v.A v.l,all (v.kids eX),mapc (fun s:ByteArray=>Value.string s) (fun b:Bool=>Value.bool b) m55 mi]∧mz=v.l.length-i∧(i≤v.l.length)∧(mi.length≤3*j+i)) (v.l.length-0) ⟨⟨mj,0,rfl,rfl,rfl,(Nat.zero_le _),hmj⟩,sb⟩ ?_)))))))
 rintro mz _ _ ⟨mi,i,rfl,rfl,rfl,hi,hmi⟩
 refine To.z 6 ?_
 refine To.cp rfl (fun c67=>?_) (fun c67=>?_)
 obtain⟨h,hh⟩:=exg v.l i om
 have hg:=hvg.2 h (mog hh)
 refine To.z 8 ?_
 refine To.al fun b11=>?_
 refine To.z 7 ?_
 refine To.u (Up.mapUpdate (i:=9) (k:=h.name) (v:=true) (m:=mi) (KeyTy.str underlying9) rfl underlying279 rfl rfl rfl rfl) ?_
 refine To.z 8 ?_
 refine To.del0 (To.agS (v.l.length-(i+1)) om ⟨⟨(aset mi h.name true),i+1,rfl,rfl,rfl,om,(by have:=aset_len h.name true mi;omega)⟩,sb⟩)
 refine To.z 11 ?_
 refine To.del7 (To.del6 (To.agS (c.vers.length-(j+1)) om ⟨⟨mi,j+1,rfl,rfl,rfl,om,om⟩,sb⟩))
 refine To.z 8 ?_
 refine To.r (Rd.lenMap (i:=6) (m:=mj) rfl underlying279 rfl rfl) ?_
 refine To.r (Rd.as (v':= .bool false) (congrArg Value.bool (decide_eq_false om)) (Rd.gtr rfl rfl rfl)) ?_
 refine To.z 11 ?_
 refine To.del6 (To.del5 (To.del4 (To.agS (F.comps.length-(k+1)) om ⟨⟨k+1,rfl,rfl,rfl,om⟩,sb⟩)))
 refine To.z 8 ?_
 refine To.cQ rfl rfl rfl (Ent.fn rfl rfl ca111) (qehS_fn F hF) (by show owns (F.kids eX)++(owns gl++[])=[];rw[(Fl.lax eX F).owns];rfl) (ocs (oca 2 rfl) (ocs (oca 3 rfl) (ocn _))) ?_
 rintro _ _ ⟨rfl,rfl⟩
 refine⟨rfl,?_⟩
 refine To.z 4 ?_
 refine To.del3 (To.del2 (To.del1 (To.del0 (To.e1 results62 ?_))))
 exact⟨rfl,rfl⟩
theorem qcheck_fn(F:Fl)(hF:GoodX F):
    Dz 24 [.agg (cF F []).toArray] [all (F.kids eX),glc] (fun v Γ'=>v= .int .i64 0∧Γ'=[]):=by
 refine Does.en func24 ntmps24 fun w0=>?_
 refine To.s (To.g (To.bo fun b1=>?_))
 refine To.z 8 ?_
 refine To.cQ rfl rfl rfl (Ent.fn rfl rfl ca62) (qsmall_fn F hF) (by show owns (F.kids eX)++(owns gl++[])=[];rw[(Fl.lax eX F).owns];rfl) (ocs (oca 1 rfl) (ocs (oca 2 rfl) (ocn _))) ?_
 rintro _ _ ⟨rfl,rfl⟩
 refine⟨rfl,?_⟩
 refine To.z 8 ?_
 refine To.cQ rfl rfl rfl (Ent.fn rfl rfl ca63) (qnamed_fn F hF) (by show owns (F.kids eX)++(owns gl++[])=[];rw[(Fl.lax eX F).owns];rfl) (ocs (oca 1 rfl) (ocs (oca 2 rfl) (ocn _))) ?_
 rintro _ _ ⟨rfl,rfl⟩
 refine⟨rfl,?_⟩
 refine To.z 8 ?_
 refine To.cQ rfl rfl rfl (Ent.fn rfl rfl ca64) (qformed_fn F hF) (by show owns (F.kids eX)++(owns gl++[])=[];rw[(Fl.lax eX F).owns];rfl) (ocs (oca 1 rfl) (ocs (oca 2 rfl) (ocn _))) ?_
 rintro _ _ ⟨rfl,rfl⟩
 refine⟨rfl,?_⟩
 refine To.z 14 ?_
 refine To.del2 (To.del1 (To.del0 (To.e1 results24 ?_)))
 exact⟨rfl,rfl⟩
end Go.Proofs.YtllalpnmagpkfaaGreatDoor

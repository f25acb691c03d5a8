/- Own text. -/
import Derived.Test.YtlihklladkagpaaGreatDoorQd
import Derived.Test.YtlihklladkagpaaGreatDoorQb
set_option linter.unusedVariables false
set_option linter.unusedSimpArgs false
set_option maxHeartbeats 2000000
set_option maxRecDepth 100000
namespace Go.Proofs.YtlihklladkagpaaGreatDoor
open Go.Proofs.Tryz
open Go.RowKit Go.Flow Go.Mem Go.Sep Go.In
structure Hd.Good(h:Hd):Prop where
 nm:isNm h.name
 ps:h.ps.length≤2
 psn:∀p∈h.ps,isNm p
 len:h.body.length≤12
 low:PS.lowL (St.pL h.body)
 fine:PS.fineL (St.pL h.body)
 cnt:PS.cntL (St.pL h.body)≤12
 dep:PS.sdepL (St.pL h.body)≤4
def okVr(v:Vr):Prop:=isNm v.name∧(v.ty=1∧0≤v.init∧v.init≤3∨(v.ty=2∨v.ty=3)∧v.init=0)
structure Cm.Good(c:Cm):Prop where
 nm:isNm c.name
 vars:c.vars.length≤5
 var:∀v∈c.vars,okVr v
 vers1:1≤c.vers.length
 vers2:c.vers.length≤2
 ver:∀v∈c.vers,v.l.length≤3∧∀h∈v.l,h.Good
structure GoodX(F:Fl):Prop where
 nm:isNm F.name
 flags:F.flags.length≤2
 flag:∀x∈F.flags,isNm x.name
 links:F.links.length≤9
 link:∀x∈F.links,isNm x.src∧isNm x.dst∧1≤x.lat∧x.lat≤3
 comps1:1≤F.comps.length
 comps:F.comps.length≤3
 comp:∀c∈F.comps,c.Good
theorem nms_mem{c n:Nat}{s:ByteArray}(h:s∈nms c n):∃k,k<n∧s=nm c k:=by
 unfold nms at h
 obtain⟨k,hk,rfl⟩:=List.mem_map.1 h
 exact⟨k,List.mem_range.1 hk,rfl⟩
theorem okVr_of{ints tables:Nat}(hi:ints≤3){v:Vr}(h:v∈varsOf ints tables):okVr v:=by
 unfold varsOf at h
 rcases List.mem_append.1 h with h|h
 · rcases List.mem_append.1 h with h|h
   · obtain⟨k,hk,rfl⟩:=List.mem_map.1 h
     have:=List.mem_range.1 hk
     exact⟨isNm_x om, .inl ⟨rfl,by show(0:Int)≤(k:Int);omega,by show(k:Int)≤3;omega⟩⟩
   ·rw[List.mem_singleton.1 h];exact⟨isNm_b0, .inr ⟨.inl rfl,rfl⟩⟩
 · obtain⟨k,hk,rfl⟩:=List.mem_map.1 h
   exact⟨isNm_t0, .inr ⟨.inr rfl,rfl⟩⟩
theorem vars_len(a b:Nat):(varsOf a b).length=a+1+b:=by
 unfold varsOf;simp only[lap,List.length_map,List.length_range,lc1,ln0]
theorem goodX{F:Fl}(h:GoodF F.pure):GoodX F:=by
 obtain⟨ars,ho,hl,hg⟩:=h.comps
 have hcl:F.comps.length=ars.length:=by have h1:(F.comps.map Cm.pure).length=ars.length:=hl;rwa[List.length_map]at h1
 have hll:=h.links
 refine⟨by have h1:F.name=_:=h.name;rw[h1];exact isNm_fl,h.flags.1,fun x hx=>?_,hll.1,fun x hx=>?_,by have:=ho.1;omega,by have:=ho.1;omega,fun c hc=>?_⟩
 · have h1:F.flags.map Fg.name=nms 102 F.flags.length:=h.flags.2
   have h3:F.flags.length≤2:=h.flags.1
   obtain⟨k,hk,e⟩:=nms_mem (show x.name∈nms 102 F.flags.length by rw[←h1];exact List.mem_map.2 ⟨x,hx,rfl⟩)
   rw[e];exact isNm_f om
 · obtain⟨i,j,hi,hj,e1,e2,e3⟩:=hll.2.1 x hx
   have hp:F.pure.comps.length=F.comps.length:=List.length_map ..
   have h3:=ho.1
   rw[e1,e2];exact⟨isNm_c om,isNm_c om,e3⟩
 · obtain⟨i,hi⟩:=List.getElem?_of_mem hc
   have hpi:F.pure.comps[i]?=some c.pure:=by
    show(F.comps.map Cm.pure)[i]?=_
    rw[List.getElem?_map,hi];rfl
   obtain⟨ct,ar,ok⟩:=h.okC hpi
   have hil:i<F.comps.length:=(List.getElem?_eq_some_iff.1 hi).1
   have g:=hg i _ hpi
   obtain⟨_,_,_,_,_,_,_,_,hvn,_⟩:=g.vers
   have hcv:c.vars=varsOf ct.ints ct.tables:=ok.vars
   have hci:=ok.ok.ints
   have hct:=ok.ok.tables
   have har:=ok.ok.each ar (mog ok.arr)
   have hvl:(c.vers.map Vs.pure).length=c.vers.length:=List.length_map ..
   have hvn:1≤(c.vers.map Vs.pure).length∧(c.vers.map Vs.pure).length≤2:=hvn
   refine⟨by have h1:c.name=nC i:=ok.name;rw[h1];exact isNm_c (by have:=ho.1;omega),by rw[hcv,vars_len];omega,fun v hv=>okVr_of hci.2 (by rw[←hcv];exact hv),by omega,by omega,fun v hv=>?_⟩
   have gv:=ok.vers v.pure (List.mem_map.2 ⟨v,hv,rfl⟩)
   have hpl:v.pure.length=v.l.length:=List.length_map ..
   have gl:=gv.2.1
   refine⟨by omega,fun x hx=>?_⟩
   obtain⟨k,hk⟩:=List.getElem?_of_mem hx
   have hkl:k<v.l.length:=(List.getElem?_eq_some_iff.1 hk).1
   have gh:=gv.2.2 k x.pure (by show(v.l.map Hd.pure)[k]?=_;rw[List.getElem?_map,hk];rfl)
   obtain⟨np,hnp,hps,hst⟩:=gh.ps
   have hnp2:np≤2:=har.2.2 np (mog hnp)
   have hps:x.ps=nms 112 np:=hps
   have hst:∀s∈St.pL x.body,StE ct np 3 s:=hst
   have hcn:PS.cntL (St.pL x.body)≤12:=gh.cnt
   have hbl:(St.pL x.body).length=x.body.length:=by rw[St.pm,List.length_map]
   have hb:=cnt_le (St.pL x.body)
   refine⟨by have h1:x.name=nm 104 k:=gh.name;rw[h1];exact isNm_h om,by rw[hps,nms_len];exact hnp2,fun p hp=>?_,by omega,PS.lowL_of fun s hs=>(hst s hs).low ok.ok (Nat.le_trans (cnt_mem hs) hcn),PS.fineL_of fun s hs=>((hst s hs).fine ok.ok hnp2).1,hcn,PS.sdepL_le fun s hs=>((hst s hs).fine ok.ok hnp2).2⟩
   rw[hps]at hp
   obtain⟨j,hj,rfl⟩:=nms_mem hp
   exact isNm_p om
theorem GoodX.low{F:Fl}(h:GoodX F):LowF F:=⟨h.flags,h.links,h.comps,fun c hc=>⟨(h.comp c hc).vars,fun v hv=>by
 rcases((h.comp c hc).var v hv).2 with h1|h1<;>omega⟩,fun c hc=>⟨(h.comp c hc).vers2,fun v hv=>⟨((h.comp c hc).ver v hv).1,fun x hx=>by
  have g:=((h.comp c hc).ver v hv).2 x hx
  exact⟨g.ps,g.len,g.low⟩⟩⟩⟩
theorem Rd.lenMap{P:Program}{o:Oper}{ρ:Slots}{Γ:List Chunk}{x:Operand}{κ β:Type} [DecidableEq κ]{ek:κ→Value}{evl:β→Value}{b i:Nat}{m:List (κ×β)}{t K E:TypeId}(ho:o.op= .call {callee:= .builtin .len,args:=#[x],argTypes:=#[t]})(ht:P.underlying t=some (.map K E))(hx:ev ρ x=some (.map (some b)))(hi:Γ[i]?=some (mapc ek evl b m)):Rd P o ρ Γ (nv m.length):=fun a w ha hs=>by
 obtain⟨es,clock,h1,h2⟩:=hs _ (mog hi)
 have h3:es.size=m.length:=by
  have:=congrArg List.length h2
  unfold entries pairs at this
  rwa[List.length_map,List.length_map,Array.length_toList]at this
 unfold execOp
 simp[ho,resolve,invoke,builtin,ha.eval hx,Builtin.len_,run_underlying ht,getObj,Sem.run,h1,h3,goInt]
theorem aset_len{κ β:Type} [DecidableEq κ](x:κ)(v:β):∀m:List (κ×β),(aset m x v).length≤m.length+1
 |[]=>Nat.le_refl _
 | p::r=>by
   have:=aset_len x v r
   unfold aset
   split
   ·exact Nat.le_succ _
   ·show(aset r x v).length+1≤r.length+1+1;omega
theorem qsmallH_fn(h:Hd)(hg:h.Good):
    Dz 132 [.agg (encH h).toArray] [all (h.kids eX),glc] (fun v Γ'=>v= .bool true∧Γ'=[]):=by
 refine Does.en func132 ntmps132 fun w0=>?_
 refine Js (To.g (Jbo fun b1=>?_))
 refine Jz 5 ?_
 refine Jpart 1 rfl (lsG encX encT h.Ab h.body) (lsG_lax _ _ _ _) (Hd.body_k (k:=eX)) (Jz 4 ?_)
 refine Jr (Rd.as (v':= .bool false) (congrArg Value.bool (decide_eq_false (by have:=hg.ps;omega))) (Rd.gtr rfl rfl rfl)) ?_
 refine Jz 3 ?_
 refine Jqf (qcnt_fn h.body h.Ab h.qb hg.len hg.low (Nat.le_trans hg.cnt (by decide))) (by show owns (lsG encX encT h.Ab h.body)++[]=[];rw[(lsG_lax encX encT h.Ab h.body).owns];rfl) (ocs (oca 0 rfl) (ocn _)) ?_
 rintro _ _ ⟨rfl,rfl⟩
 refine⟨rfl,?_⟩
 refine Jr (Rd.as (v':= .bool false) (congrArg Value.bool (decide_eq_false (by have:=hg.cnt;omega))) (Rd.gtr rfl rfl rfl)) ?_
 refine Jz 4 ?_
 refine Jqf (qsdep_fn h.body h.Ab h.qb hg.len hg.low (Nat.le_trans hg.dep (by decide))) (by show owns (lsG encX encT h.Ab h.body)++[]=[];rw[(lsG_lax encX encT h.Ab h.body).owns];rfl) (ocs (oca 0 rfl) (ocn _)) ?_
 rintro _ _ ⟨rfl,rfl⟩
 refine⟨rfl,?_⟩
 refine Jr (Rd.as (v':= .bool false) (congrArg Value.bool (decide_eq_false (by have:=hg.dep;omega))) (Rd.gtr rfl rfl rfl)) ?_
 refine Jz 10 ?_
 refine Jqf (qesS_fn h.body h.Ab h.qb hg.len hg.low hg.fine) (by show owns (lsG encX encT h.Ab h.body)++(owns gl++[])=[];rw[(lsG_lax encX encT h.Ab h.body).owns];rfl) (ocs (oca 0 rfl) (ocs (oca 3 rfl) (ocn _))) ?_
 rintro _ _ ⟨rfl,rfl⟩
 refine⟨rfl,?_⟩
 refine Jz 4 ?_
 refine Jdel3 (Jdel2 (Jdel1 (Jdel0 (Je1 results132 ?_))))
 exact⟨rfl,rfl⟩
theorem qnamedH_fn(h:Hd)(hg:h.Good):
    Dz 134 [.agg (encH h).toArray] [all (h.kids eX),glc] (fun v Γ'=>v= .bool true∧Γ'=[]):=by
 have hps2:=hg.ps
 refine Does.en func134 ntmps134 fun w0=>?_
 refine Js (To.g (Jbo fun b1=>?_))
 refine Jz 7 ?_
 refine Jvf (isname_fn hg.nm) rfl (oks_gl 2 rfl) ?_
 refine Jz 5 ?_
 refine Jpart 1 rfl (lsG encX encT h.Ab h.body) (lsG_lax _ _ _ _) (Hd.body_k (k:=eX)) (To.one 2 rfl (ros encZ h.Ap h.ps) rfl (Hd.ps_k) (Jz 8 ?_))
 refine To.loP (fun s g mz ρ Γ=>∃(k:Nat),ρ=[s 1,s 3,s 10,s 11,(12,nv k)]∧Γ=[g 2,g 0,g 1,glc]∧mz=h.ps.length-k∧(k≤h.ps.length)) ⟨⟨0,rfl,rfl,rfl,om⟩,sb⟩ ?_
 rintro mz _ _ ⟨k,rfl,rfl,rfl,hk⟩
 refine Jz 6 ?_
 refine Jcp rfl ?_ ?_<;>intro c13
 obtain⟨p,hp⟩:=exg h.ps k om
 refine Jz 15 ?_
 refine Jvf (isname_fn (hg.psn p (mog hp))) rfl (oks_gl 3 rfl) ?_
 refine Jz 10 ?_
 refine To.agT ⟨⟨k+1,rfl,rfl,rfl,om⟩,sb⟩
 refine Jz 11 ?_
 refine Jqf (qesN_fn h.body h.Ab h.qb hg.len hg.low hg.fine) (by show owns (lsG encX encT h.Ab h.body)++(owns gl++[])=[];rw[(lsG_lax encX encT h.Ab h.body).owns];rfl) (ocs (oca 2 rfl) (ocs (oca 3 rfl) (ocn _))) ?_
 rintro _ _ ⟨rfl,rfl⟩
 refine⟨rfl,?_⟩
 refine Jz 5 ?_
 refine Jdel3 (Jdel2 (Jdel1 (Jdel0 (Je1 results134 ?_))))
 exact⟨rfl,rfl⟩
theorem qformedH_fn(h:Hd)(hg:h.Good):
    Dz 138 [.agg (encH h).toArray] [all (h.kids eX),glc] (fun v Γ'=>v= .bool true∧Γ'=[]):=by
 refine Does.en func138 ntmps138 fun w0=>?_
 refine Js (To.g (Jbo fun b1=>?_))
 refine Jz 4 ?_
 refine Jpart 1 rfl (lsG encX encT h.Ab h.body) (lsG_lax _ _ _ _) (Hd.body_k (k:=eX)) (Jz 3 ?_)
 refine Jqf (qesF_fn h.body h.Ab h.qb hg.len hg.low hg.fine) (by show owns (lsG encX encT h.Ab h.body)++(owns gl++[])=[];rw[(lsG_lax encX encT h.Ab h.body).owns];rfl) (ocs (oca 0 rfl) (ocs (oca 3 rfl) (ocn _))) ?_
 rintro _ _ ⟨rfl,rfl⟩
 refine⟨rfl,?_⟩
 refine Jz 4 ?_
 refine Jdel3 (Jdel2 (Jdel1 (Jdel0 (Je1 results138 ?_))))
 exact⟨rfl,rfl⟩
theorem qehS_fn(F:Fl)(hF:GoodX F):
    Dz 131 [.agg (cF F []).toArray, .func (.func 132) #[] #[]] [all (F.kids eX),glc] (fun v Γ'=>v= .bool true∧Γ'=[]):=by
 have hFc:=hF.comps
 refine Does.en func131 ntmps131 fun w0=>?_
 refine Js (To.g (Jbo fun b2=>?_))
 refine Jz 5 ?_
 refine To.one 1 rfl (ros encC F.Ac F.comps) rfl (Fl.comps_k (k:=eX)) (Jz 8 ?_)
 refine To.loP (fun s g mz ρ Γ=>∃(k:Nat),ρ=[s 1,s 12,s 13,(14,nv k)]∧Γ=[g 0,g 2,glc]∧mz=F.comps.length-k∧(k≤F.comps.length)) ⟨⟨0,rfl,rfl,rfl,om⟩,sb⟩ ?_
 rintro mz _ _ ⟨k,rfl,rfl,rfl,hk⟩
 refine Jz 6 ?_
 refine Jcp rfl ?_ ?_<;>intro c15
 obtain⟨c,hc⟩:=exg F.comps k om
 have hcg:=hF.comp c (mog hc)
 have hcv:=hcg.vers2
 have hcv1:=hcg.vers1
 have hcr:=hcg.vars
 refine Jz 8 ?_
 refine Jal fun b6=>?_
 refine Jz 4 ?_
 refine Jpart 2 rfl (c.kids eX) (Cm.lax eX c) (Fl.comp_k hc) (To.one 0 rfl (ros encVs c.An c.vers) rfl (Cm.vers_k (k:=eX)) (Jz 8 ?_))
 refine To.loP (fun s g mz ρ Γ=>∃(j:Nat),ρ=[s 1,s 12,s 13,s 14,s 19,s 20,(21,nv j)]∧Γ=[g 3,g 4,glc,g 0,g 1]∧mz=c.vers.length-j∧(j≤c.vers.length)) ⟨⟨0,rfl,rfl,rfl,om⟩,sb⟩ ?_
 rintro mz _ _ ⟨j,rfl,rfl,rfl,hj⟩
 refine Jz 6 ?_
 refine Jcp rfl ?_ ?_<;>intro c22
 obtain⟨v,hv⟩:=exg c.vers j om
 have hvg:=hcg.ver v (mog hv)
 have hvl:=hvg.1
 refine Jz 8 ?_
 refine Jal fun b8=>?_
 refine Jz 4 ?_
 refine Jpart 5 rfl (v.kids eX) (Vs.lax eX v) (Cm.ver_k hv) (To.one 0 rfl (ros encH v.A v.l) rfl (Vs.l_k (k:=eX)) (Jz 8 ?_))
 refine To.loP (fun s g mz ρ Γ=>∃(i:Nat),ρ=[s 1,s 12,s 13,s 14,s 19,s 20,s 21,s 26,s 27,(28,nv i)]∧Γ=[g 3,g 4,glc,g 6,g 7,g 0,g 1]∧mz=v.l.length-i∧(i≤v.l.length)) ⟨⟨0,rfl,rfl,rfl,om⟩,sb⟩ ?_
 rintro mz _ _ ⟨i,rfl,rfl,rfl,hi⟩
 refine Jz 6 ?_
 refine Jcp rfl ?_ ?_<;>intro c29
 obtain⟨h,hh⟩:=exg v.l i om
 have hg:=hvg.2 h (mog hh)
 refine Jz 8 ?_
 refine Jal fun b10=>?_
 refine Jz 4 ?_
 refine Jpart 7 rfl (h.kids eX) (Hd.lax eX h) (Vs.hd_k hh) (Jz 3 ?_)
 refine JcQ rfl rfl rfl (Ent.func (first:=[]) (captured:=[]) rfl rfl rfl (kc.h 132 rfl)) (qsmallH_fn h hg) (by show owns (h.kids eX)++(owns gl++[])=[];rw[(Hd.lax eX h).owns];rfl) (ocs (oca 0 rfl) (ocs (oca 4 rfl) (ocn _))) ?_
 rintro _ _ ⟨rfl,rfl⟩
 refine⟨rfl,?_⟩
 refine Jz 12 ?_
 refine To.agP ⟨⟨i+1,rfl,rfl,rfl,om⟩,sb⟩
 refine Jz 11 ?_
 refine To.agP ⟨⟨j+1,rfl,rfl,rfl,om⟩,sb⟩
 refine Jz 11 ?_
 refine To.agP ⟨⟨k+1,rfl,rfl,rfl,om⟩,sb⟩
 refine Jz 11 ?_
 refine Jdel2 (Jdel1 (Jdel0 (Je1 results131 ?_)))
 exact⟨rfl,rfl⟩
theorem qehN_fn(F:Fl)(hF:GoodX F):
    Dz 131 [.agg (cF F []).toArray, .func (.func 134) #[] #[]] [all (F.kids eX),glc] (fun v Γ'=>v= .bool true∧Γ'=[]):=by
 have hFc:=hF.comps
 refine Does.en func131 ntmps131 fun w0=>?_
 refine Js (To.g (Jbo fun b2=>?_))
 refine Jz 5 ?_
 refine To.one 1 rfl (ros encC F.Ac F.comps) rfl (Fl.comps_k (k:=eX)) (Jz 8 ?_)
 refine To.loP (fun s g mz ρ Γ=>∃(k:Nat),ρ=[s 1,s 12,s 13,(14,nv k)]∧Γ=[g 0,g 2,glc]∧mz=F.comps.length-k∧(k≤F.comps.length)) ⟨⟨0,rfl,rfl,rfl,om⟩,sb⟩ ?_
 rintro mz _ _ ⟨k,rfl,rfl,rfl,hk⟩
 refine Jz 6 ?_
 refine Jcp rfl ?_ ?_<;>intro c15
 obtain⟨c,hc⟩:=exg F.comps k om
 have hcg:=hF.comp c (mog hc)
 have hcv:=hcg.vers2
 have hcv1:=hcg.vers1
 have hcr:=hcg.vars
 refine Jz 8 ?_
 refine Jal fun b6=>?_
 refine Jz 4 ?_
 refine Jpart 2 rfl (c.kids eX) (Cm.lax eX c) (Fl.comp_k hc) (To.one 0 rfl (ros encVs c.An c.vers) rfl (Cm.vers_k (k:=eX)) (Jz 8 ?_))
 refine To.loP (fun s g mz ρ Γ=>∃(j:Nat),ρ=[s 1,s 12,s 13,s 14,s 19,s 20,(21,nv j)]∧Γ=[g 3,g 4,glc,g 0,g 1]∧mz=c.vers.length-j∧(j≤c.vers.length)) ⟨⟨0,rfl,rfl,rfl,om⟩,sb⟩ ?_
 rintro mz _ _ ⟨j,rfl,rfl,rfl,hj⟩
 refine Jz 6 ?_
 refine Jcp rfl ?_ ?_<;>intro c22
 obtain⟨v,hv⟩:=exg c.vers j om
 have hvg:=hcg.ver v (mog hv)
 have hvl:=hvg.1
 refine Jz 8 ?_
 refine Jal fun b8=>?_
 refine Jz 4 ?_
 refine Jpart 5 rfl (v.kids eX) (Vs.lax eX v) (Cm.ver_k hv) (To.one 0 rfl (ros encH v.A v.l) rfl (Vs.l_k (k:=eX)) (Jz 8 ?_))
 refine To.loP (fun s g mz ρ Γ=>∃(i:Nat),ρ=[s 1,s 12,s 13,s 14,s 19,s 20,s 21,s 26,s 27,(28,nv i)]∧Γ=[g 3,g 4,glc,g 6,g 7,g 0,g 1]∧mz=v.l.length-i∧(i≤v.l.length)) ⟨⟨0,rfl,rfl,rfl,om⟩,sb⟩ ?_
 rintro mz _ _ ⟨i,rfl,rfl,rfl,hi⟩
 refine Jz 6 ?_
 refine Jcp rfl ?_ ?_<;>intro c29
 obtain⟨h,hh⟩:=exg v.l i om
 have hg:=hvg.2 h (mog hh)
 refine Jz 8 ?_
 refine Jal fun b10=>?_
 refine Jz 4 ?_
 refine Jpart 7 rfl (h.kids eX) (Hd.lax eX h) (Vs.hd_k hh) (Jz 3 ?_)
 refine JcQ rfl rfl rfl (Ent.func (first:=[]) (captured:=[]) rfl rfl rfl (kc.h 134 rfl)) (qnamedH_fn h hg) (by show owns (h.kids eX)++(owns gl++[])=[];rw[(Hd.lax eX h).owns];rfl) (ocs (oca 0 rfl) (ocs (oca 4 rfl) (ocn _))) ?_
 rintro _ _ ⟨rfl,rfl⟩
 refine⟨rfl,?_⟩
 refine Jz 12 ?_
 refine To.agP ⟨⟨i+1,rfl,rfl,rfl,om⟩,sb⟩
 refine Jz 11 ?_
 refine To.agP ⟨⟨j+1,rfl,rfl,rfl,om⟩,sb⟩
 refine Jz 11 ?_
 refine To.agP ⟨⟨k+1,rfl,rfl,rfl,om⟩,sb⟩
 refine Jz 11 ?_
 refine Jdel2 (Jdel1 (Jdel0 (Je1 results131 ?_)))
 exact⟨rfl,rfl⟩
theorem qehF_fn(F:Fl)(hF:GoodX F):
    Dz 131 [.agg (cF F []).toArray, .func (.func 138) #[] #[]] [all (F.kids eX),glc] (fun v Γ'=>v= .bool true∧Γ'=[]):=by
 have hFc:=hF.comps
 refine Does.en func131 ntmps131 fun w0=>?_
 refine Js (To.g (Jbo fun b2=>?_))
 refine Jz 5 ?_
 refine To.one 1 rfl (ros encC F.Ac F.comps) rfl (Fl.comps_k (k:=eX)) (Jz 8 ?_)
 refine To.loP (fun s g mz ρ Γ=>∃(k:Nat),ρ=[s 1,s 12,s 13,(14,nv k)]∧Γ=[g 0,g 2,glc]∧mz=F.comps.length-k∧(k≤F.comps.length)) ⟨⟨0,rfl,rfl,rfl,om⟩,sb⟩ ?_
 rintro mz _ _ ⟨k,rfl,rfl,rfl,hk⟩
 refine Jz 6 ?_
 refine Jcp rfl ?_ ?_<;>intro c15
 obtain⟨c,hc⟩:=exg F.comps k om
 have hcg:=hF.comp c (mog hc)
 have hcv:=hcg.vers2
 have hcv1:=hcg.vers1
 have hcr:=hcg.vars
 refine Jz 8 ?_
 refine Jal fun b6=>?_
 refine Jz 4 ?_
 refine Jpart 2 rfl (c.kids eX) (Cm.lax eX c) (Fl.comp_k hc) (To.one 0 rfl (ros encVs c.An c.vers) rfl (Cm.vers_k (k:=eX)) (Jz 8 ?_))
 refine To.loP (fun s g mz ρ Γ=>∃(j:Nat),ρ=[s 1,s 12,s 13,s 14,s 19,s 20,(21,nv j)]∧Γ=[g 3,g 4,glc,g 0,g 1]∧mz=c.vers.length-j∧(j≤c.vers.length)) ⟨⟨0,rfl,rfl,rfl,om⟩,sb⟩ ?_
 rintro mz _ _ ⟨j,rfl,rfl,rfl,hj⟩
 refine Jz 6 ?_
 refine Jcp rfl ?_ ?_<;>intro c22
 obtain⟨v,hv⟩:=exg c.vers j om
 have hvg:=hcg.ver v (mog hv)
 have hvl:=hvg.1
 refine Jz 8 ?_
 refine Jal fun b8=>?_
 refine Jz 4 ?_
 refine Jpart 5 rfl (v.kids eX) (Vs.lax eX v) (Cm.ver_k hv) (To.one 0 rfl (ros encH v.A v.l) rfl (Vs.l_k (k:=eX)) (Jz 8 ?_))
 refine To.loP (fun s g mz ρ Γ=>∃(i:Nat),ρ=[s 1,s 12,s 13,s 14,s 19,s 20,s 21,s 26,s 27,(28,nv i)]∧Γ=[g 3,g 4,glc,g 6,g 7,g 0,g 1]∧mz=v.l.length-i∧(i≤v.l.length)) ⟨⟨0,rfl,rfl,rfl,om⟩,sb⟩ ?_
 rintro mz _ _ ⟨i,rfl,rfl,rfl,hi⟩
 refine Jz 6 ?_
 refine Jcp rfl ?_ ?_<;>intro c29
 obtain⟨h,hh⟩:=exg v.l i om
 have hg:=hvg.2 h (mog hh)
 refine Jz 8 ?_
 refine Jal fun b10=>?_
 refine Jz 4 ?_
 refine Jpart 7 rfl (h.kids eX) (Hd.lax eX h) (Vs.hd_k hh) (Jz 3 ?_)
 refine JcQ rfl rfl rfl (Ent.func (first:=[]) (captured:=[]) rfl rfl rfl (kc.h 138 rfl)) (qformedH_fn h hg) (by show owns (h.kids eX)++(owns gl++[])=[];rw[(Hd.lax eX h).owns];rfl) (ocs (oca 0 rfl) (ocs (oca 4 rfl) (ocn _))) ?_
 rintro _ _ ⟨rfl,rfl⟩
 refine⟨rfl,?_⟩
 refine Jz 12 ?_
 refine To.agP ⟨⟨i+1,rfl,rfl,rfl,om⟩,sb⟩
 refine Jz 11 ?_
 refine To.agP ⟨⟨j+1,rfl,rfl,rfl,om⟩,sb⟩
 refine Jz 11 ?_
 refine To.agP ⟨⟨k+1,rfl,rfl,rfl,om⟩,sb⟩
 refine Jz 11 ?_
 refine Jdel2 (Jdel1 (Jdel0 (Je1 results131 ?_)))
 exact⟨rfl,rfl⟩
theorem qfvar_fn(y:Vr)(hy:okVr y):
    Dz 137 [.agg (encVx y).toArray] [] (fun v _=>v= .bool true):=by
 refine Does.en func137 ntmps137 fun w0=>?_
 refine Js (To.g (Jbo fun b1=>?_))
 refine Jz 17 ?_
 refine Jcp rfl ?_ ?_<;>intro c5
 have hv2:=hy.2
 refine Jz 4 ?_
 refine Jr (Rd.as (v':= .bool true) (congrArg Value.bool (decide_eq_true (by intro h;omega))) (Rd.neq rfl rfl rfl)) ?_
 refine Jz 6 ?_
 refine Jdel0 (Je1 results137 ?_)
 rfl
 refine Jz 6 ?_
 refine Jcp rfl ?_ ?_<;>intro c10
 have hv2:=hy.2
 refine Jz 4 ?_
 refine Jr (Rd.as (v':= .bool true) (congrArg Value.bool (decide_eq_true om)) (Rd.eql rfl rfl rfl)) ?_
 refine Jz 11 ?_
 refine Jdel0 (Je1 results137 ?_)
 rfl
 refine Jz 6 ?_
 refine Jcp rfl ?_ ?_<;>intro c20
 have hv2:=hy.2
 refine Jz 4 ?_
 refine Jr (Rd.as (v':= .bool true) (congrArg Value.bool (decide_eq_true om)) (Rd.eql rfl rfl rfl)) ?_
 refine Jz 6 ?_
 refine Jdel0 (Je1 results137 ?_)
 rfl
 exfalso;rcases hy.2 with h|h<;>omega
theorem qformed_fn(F:Fl)(hF:GoodX F):
    Dz 85 [.agg (cF F []).toArray] [all (F.kids eX),glc] (fun v Γ'=>v= .bool true∧Γ'=[]):=by
 have hFc:=hF.comps
 have hFl:=hF.links
 refine Does.en func85 ntmps85 fun w0=>?_
 refine Js (To.g (Jbo fun b1=>?_))
 refine Jz 5 ?_
 refine To.one 1 rfl (ros encLk F.Al F.links) rfl (Fl.links_k (k:=eX)) (Jz 8 ?_)
 refine To.loP (fun s g mz ρ Γ=>∃(kz:Nat),ρ=[s 1,s 10,s 11,(12,nv kz)]∧Γ=[g 1,g 0,g 2,glc]∧mz=F.links.length-kz∧(kz≤F.links.length)) ⟨⟨0,rfl,rfl,rfl,om⟩,sb⟩ ?_
 rintro mz _ _ ⟨kz,rfl,rfl,rfl,hkz⟩
 refine Jz 6 ?_
 refine Jcp rfl ?_ ?_<;>intro c13
 obtain⟨z,hz⟩:=exg F.links kz om
 have hzl:=hF.link z (mog hz)
 have hz1:=hzl.2.2.1
 have hz2:=hzl.2.2.2
 refine Jz 8 ?_
 refine Jal fun b4=>?_
 refine Jz 7 ?_
 refine Jr (Rd.as (v':= .bool false) (congrArg Value.bool (decide_eq_false om)) (Rd.lss rfl rfl rfl)) ?_
 refine Jz 3 ?_
 refine Jr (Rd.as (v':= .bool false) (congrArg Value.bool (decide_eq_false om)) (Rd.gtr rfl rfl rfl)) ?_
 refine Jz 12 ?_
 refine To.agP ⟨⟨kz+1,rfl,rfl,rfl,om⟩,sb⟩
 refine Jz 7 ?_
 refine To.one 2 rfl (ros encC F.Ac F.comps) rfl (Fl.comps_k (k:=eX)) (Jz 8 ?_)
 refine To.loP (fun s g mz ρ Γ=>∃(k:Nat),ρ=[s 1,s 26,s 27,(28,nv k)]∧Γ=[g 1,g 0,g 3,glc]∧mz=F.comps.length-k∧(k≤F.comps.length)) ⟨⟨0,rfl,rfl,rfl,om⟩,sb⟩ ?_
 rintro mz _ _ ⟨k,rfl,rfl,rfl,hk⟩
 refine Jz 6 ?_
 refine Jcp rfl ?_ ?_<;>intro c29
 obtain⟨c,hc⟩:=exg F.comps k om
 have hcg:=hF.comp c (mog hc)
 have hcv:=hcg.vers2
 have hcv1:=hcg.vers1
 have hcr:=hcg.vars
 refine Jz 8 ?_
 refine Jal fun b6=>?_
 refine Jz 4 ?_
 refine Jpart 3 rfl (c.kids eX) (Cm.lax eX c) (Fl.comp_k hc) (To.one 0 rfl (ros encVx c.Av c.vars) rfl (Cm.vars_k (k:=eX)) (Jz 8 ?_))
 refine To.loP (fun s g mz ρ Γ=>∃(j:Nat),ρ=[s 1,s 26,s 27,s 28,s 33,s 34,(35,nv j)]∧Γ=[g 3,g 4,g 5,glc,g 0,g 1]∧mz=c.vars.length-j∧(j≤c.vars.length)) ⟨⟨0,rfl,rfl,rfl,om⟩,sb⟩ ?_
 rintro mz _ _ ⟨j,rfl,rfl,rfl,hj⟩
 refine Jz 6 ?_
 refine Jcp rfl ?_ ?_<;>intro c36
 obtain⟨y,hy⟩:=exg c.vars j om
 refine Jz 8 ?_
 refine Jal fun b8=>?_
 refine Jz 6 ?_
 refine Jvf (qfvar_fn y (hcg.var y (mog hy))) rfl (ocn _) ?_
 refine Jz 12 ?_
 refine To.agP ⟨⟨j+1,rfl,rfl,rfl,om⟩,sb⟩
 refine Jz 11 ?_
 refine To.agP ⟨⟨k+1,rfl,rfl,rfl,om⟩,sb⟩
 refine Jz 8 ?_
 refine Jqf (qehF_fn F hF) (by show owns (F.kids eX)++(owns gl++[])=[];rw[(Fl.lax eX F).owns];rfl) (ocs (oca 2 rfl) (ocs (oca 3 rfl) (ocn _))) ?_
 rintro _ _ ⟨rfl,rfl⟩
 refine⟨rfl,?_⟩
 refine Jz 4 ?_
 refine Jdel3 (Jdel2 (Jdel1 (Jdel0 (Je1 results85 ?_))))
 exact⟨rfl,rfl⟩
theorem qnamed_fn(F:Fl)(hF:GoodX F):
    Dz 84 [.agg (cF F []).toArray] [all (F.kids eX),glc] (fun v Γ'=>v= .bool true∧Γ'=[]):=by
 have hFc:=hF.comps
 have hFl:=hF.links
 have hFf:=hF.flags
 refine Does.en func84 ntmps84 fun w0=>?_
 refine Js (To.g (Jbo fun b1=>?_))
 refine Jz 7 ?_
 refine Jvf (isname_fn hF.nm) rfl (oks_gl 2 rfl) ?_
 refine Jz 5 ?_
 refine To.one 1 rfl (ros encFg F.Af F.flags) rfl (Fl.flags_k (k:=eX)) (Jz 8 ?_)
 refine To.loP (fun s g mz ρ Γ=>∃(f0:Nat),ρ=[s 1,s 3,s 16,s 17,(18,nv f0)]∧Γ=[g 1,g 0,g 2,glc]∧mz=F.flags.length-f0∧(f0≤F.flags.length)) ⟨⟨0,rfl,rfl,rfl,om⟩,sb⟩ ?_
 rintro mz _ _ ⟨f0,rfl,rfl,rfl,hf0⟩
 refine Jz 6 ?_
 refine Jcp rfl ?_ ?_<;>intro c19
 obtain⟨x,hx⟩:=exg F.flags f0 om
 refine Jz 8 ?_
 refine Jal fun b5=>?_
 refine Jz 8 ?_
 refine Jvf (isname_fn (hF.flag x (mog hx))) rfl (oks_gl 4 rfl) ?_
 refine Jz 10 ?_
 refine To.agP ⟨⟨f0+1,rfl,rfl,rfl,om⟩,sb⟩
 refine Jz 7 ?_
 refine To.one 2 rfl (ros encLk F.Al F.links) rfl (Fl.links_k (k:=eX)) (Jz 8 ?_)
 refine To.loP (fun s g mz ρ Γ=>∃(kz:Nat),ρ=[s 1,s 3,s 30,s 31,(32,nv kz)]∧Γ=[g 1,g 0,g 3,glc]∧mz=F.links.length-kz∧(kz≤F.links.length)) ⟨⟨0,rfl,rfl,rfl,om⟩,sb⟩ ?_
 rintro mz _ _ ⟨kz,rfl,rfl,rfl,hkz⟩
 refine Jz 6 ?_
 refine Jcp rfl ?_ ?_<;>intro c33
 obtain⟨z,hz⟩:=exg F.links kz om
 have hzl:=hF.link z (mog hz)
 have hz1:=hzl.2.2.1
 have hz2:=hzl.2.2.2
 refine Jz 8 ?_
 refine Jal fun b7=>?_
 refine Jz 8 ?_
 refine Jvf (isname_fn hzl.1) rfl (oks_gl 4 rfl) ?_
 refine Jz 4 ?_
 refine Jvf (isname_fn hzl.2.1) rfl (oks_gl 4 rfl) ?_
 refine Jz 10 ?_
 refine To.agP ⟨⟨kz+1,rfl,rfl,rfl,om⟩,sb⟩
 refine Jz 7 ?_
 refine To.one 2 rfl (ros encC F.Ac F.comps) rfl (Fl.comps_k (k:=eX)) (Jz 8 ?_)
 refine To.loP (fun s g mz ρ Γ=>∃(k:Nat),ρ=[s 1,s 3,s 49,s 50,(51,nv k)]∧Γ=[g 1,g 0,g 3,glc]∧mz=F.comps.length-k∧(k≤F.comps.length)) ⟨⟨0,rfl,rfl,rfl,om⟩,sb⟩ ?_
 rintro mz _ _ ⟨k,rfl,rfl,rfl,hk⟩
 refine Jz 6 ?_
 refine Jcp rfl ?_ ?_<;>intro c52
 obtain⟨c,hc⟩:=exg F.comps k om
 have hcg:=hF.comp c (mog hc)
 have hcv:=hcg.vers2
 have hcv1:=hcg.vers1
 have hcr:=hcg.vars
 refine Jz 8 ?_
 refine Jal fun b9=>?_
 refine Jz 9 ?_
 refine Jvf (isname_fn hcg.nm) rfl (oks_gl 4 rfl) ?_
 refine Jz 5 ?_
 refine Jpart 3 rfl (c.kids eX) (Cm.lax eX c) (Fl.comp_k hc) (To.one 0 rfl (ros encVx c.Av c.vars) rfl (Cm.vars_k (k:=eX)) (Jz 8 ?_))
 refine To.loP (fun s g mz ρ Γ=>∃(j:Nat),ρ=[s 1,s 3,s 49,s 50,s 51,s 62,s 63,(64,nv j)]∧Γ=[g 3,g 4,g 5,glc,g 0,g 1]∧mz=c.vars.length-j∧(j≤c.vars.length)) ⟨⟨0,rfl,rfl,rfl,om⟩,sb⟩ ?_
 rintro mz _ _ ⟨j,rfl,rfl,rfl,hj⟩
 refine Jz 6 ?_
 refine Jcp rfl ?_ ?_<;>intro c65
 obtain⟨y,hy⟩:=exg c.vars j om
 refine Jz 8 ?_
 refine Jal fun b11=>?_
 refine Jz 8 ?_
 refine Jvf (isname_fn (hcg.var y (mog hy)).1) rfl (oks_gl 4 rfl) ?_
 refine Jz 10 ?_
 refine To.agP ⟨⟨j+1,rfl,rfl,rfl,om⟩,sb⟩
 refine Jz 11 ?_
 refine To.agP ⟨⟨k+1,rfl,rfl,rfl,om⟩,sb⟩
 refine Jz 10 ?_
 refine Jqf (qehN_fn F hF) (by show owns (F.kids eX)++(owns gl++[])=[];rw[(Fl.lax eX F).owns];rfl) (ocs (oca 2 rfl) (ocs (oca 3 rfl) (ocn _))) ?_
 rintro _ _ ⟨rfl,rfl⟩
 refine⟨rfl,?_⟩
 refine Jz 5 ?_
 refine Jdel3 (Jdel2 (Jdel1 (Jdel0 (Je1 results84 ?_))))
 exact⟨rfl,rfl⟩
theorem qsmall_fn(F:Fl)(hF:GoodX F):
    Dz 83 [.agg (cF F []).toArray] [all (F.kids eX),glc] (fun v Γ'=>v= .bool true∧Γ'=[]):=by
 have hFc:=hF.comps
 have hFc1:=hF.comps1
 have hFl:=hF.links
 have hFf:=hF.flags
 refine Does.en func83 ntmps83 fun w0=>?_
 refine Js (To.g (Jbo fun b1=>?_))
 refine Jz 15 ?_
 refine Jr (Rd.as (v':= .bool false) (congrArg Value.bool (decide_eq_false om)) (Rd.eql rfl rfl rfl)) ?_
 refine Jz 2 ?_
 refine Jr (Rd.as (v':= .bool false) (congrArg Value.bool (decide_eq_false om)) (Rd.gtr rfl rfl rfl)) ?_
 refine Jz 5 ?_
 refine Jr (Rd.as (v':= .bool false) (congrArg Value.bool (decide_eq_false om)) (Rd.gtr rfl rfl rfl)) ?_
 refine Jz 5 ?_
 refine Jr (Rd.as (v':= .bool false) (congrArg Value.bool (decide_eq_false om)) (Rd.gtr rfl rfl rfl)) ?_
 refine Jz 8 ?_
 refine To.one 1 rfl (ros encC F.Ac F.comps) rfl (Fl.comps_k (k:=eX)) (Jz 8 ?_)
 refine To.loP (fun s g mz ρ Γ=>∃(k:Nat),ρ=[s 1,s 34,s 35,(36,nv k)]∧Γ=[g 1,g 0,g 2,glc]∧mz=F.comps.length-k∧(k≤F.comps.length)) ⟨⟨0,rfl,rfl,rfl,om⟩,sb⟩ ?_
 rintro mz _ _ ⟨k,rfl,rfl,rfl,hk⟩
 refine Jz 6 ?_
 refine Jcp rfl ?_ ?_<;>intro c37
 obtain⟨c,hc⟩:=exg F.comps k om
 have hcg:=hF.comp c (mog hc)
 have hcv:=hcg.vers2
 have hcv1:=hcg.vers1
 have hcr:=hcg.vars
 refine Jz 8 ?_
 refine Jal fun b5=>?_
 refine Jz 17 ?_
 refine Jr (Rd.as (v':= .bool false) (congrArg Value.bool (decide_eq_false om)) (Rd.gtr rfl rfl rfl)) ?_
 refine Jz 2 ?_
 refine Jr (Rd.as (v':= .bool false) (congrArg Value.bool (decide_eq_false om)) (Rd.eql rfl rfl rfl)) ?_
 refine Jz 3 ?_
 refine Jr (Rd.as (v':= .bool false) (congrArg Value.bool (decide_eq_false om)) (Rd.gtr rfl rfl rfl)) ?_
 refine Jz 8 ?_
 refine Jmk rfl rfl rfl (Mk.makeMapOwn (fun s:ByteArray=>Value.string s) (fun b:Bool=>Value.bool b) rfl) ?_
 rintro _ _ ⟨m55,rfl,rfl⟩
 refine Jz 5 ?_
 refine Jpart 4 rfl (c.kids eX) (Cm.lax eX c) (Fl.comp_k hc) (To.one 0 rfl (ros encVs c.An c.vers) rfl (Cm.vers_k (k:=eX)) (Jz 8 ?_))
 refine To.loP (fun u g mz ρ Γ=>∃(mj:List (ByteArray×Bool)) (j:Nat),ρ=[u 1,u 34,u 35,u 36,u 7,u 57,u 58,(59,nv j)]∧Γ=[g 4,g 5,g 6,glc,g 0,g 1,mapc (fun s:ByteArray=>Value.string s) (fun b:Bool=>Value.bool b) m55 mj]∧mz=c.vers.length-j∧(j≤c.vers.length)∧(mj.length≤3*j)) ⟨⟨[],0,rfl,rfl,rfl,om,om⟩,sb⟩ ?_
 rintro mz _ _ ⟨mj,j,rfl,rfl,rfl,hj,hmj⟩
 refine Jz 6 ?_
 refine Jcp rfl ?_ ?_<;>intro c60
 obtain⟨v,hv⟩:=exg c.vers j om
 have hvg:=hcg.ver v (mog hv)
 have hvl:=hvg.1
 refine Jz 8 ?_
 refine Jal fun b9=>?_
 refine Jz 4 ?_
 refine Jpart 6 rfl (v.kids eX) (Vs.lax eX v) (Cm.ver_k hv) (To.one 0 rfl (ros encH v.A v.l) rfl (Vs.l_k (k:=eX)) (Jz 8 ?_))
 refine To.loP (fun u g mz ρ Γ=>∃(mi:List (ByteArray×Bool)) (i:Nat),ρ=[u 1,u 34,u 35,u 36,u 7,u 57,u 58,u 59,u 64,u 65,(66,nv i)]∧Γ=[g 3,g 4,g 5,glc,g 7,g 8,g 0,g 1,mapc (fun s:ByteArray=>Value.string s) (fun b:Bool=>Value.bool b) m55 mi]∧mz=v.l.length-i∧(i≤v.l.length)∧(mi.length≤3*j+i)) ⟨⟨mj,0,rfl,rfl,rfl,om,hmj⟩,sb⟩ ?_
 rintro mz _ _ ⟨mi,i,rfl,rfl,rfl,hi,hmi⟩
 refine Jz 6 ?_
 refine Jcp rfl ?_ ?_<;>intro c67
 obtain⟨h,hh⟩:=exg v.l i om
 have hg:=hvg.2 h (mog hh)
 refine Jz 8 ?_
 refine Jal fun b11=>?_
 refine Jz 7 ?_
 refine To.u (Up.mapUpdate (i:=9) (k:=h.name) (v:=true) (m:=mi) (KeyTy.str underlying9) rfl underlying285 rfl rfl rfl rfl) ?_
 refine Jz 8 ?_
 refine To.agP ⟨⟨(aset mi h.name true),i+1,rfl,rfl,rfl,om,(by have:=aset_len h.name true mi;omega)⟩,sb⟩
 refine Jz 11 ?_
 refine To.agP ⟨⟨mi,j+1,rfl,rfl,rfl,om,om⟩,sb⟩
 refine Jz 8 ?_
 refine Jr (Rd.lenMap (i:=6) (m:=mj) rfl underlying285 rfl rfl) ?_
 refine Jr (Rd.as (v':= .bool false) (congrArg Value.bool (decide_eq_false om)) (Rd.gtr rfl rfl rfl)) ?_
 refine Jz 11 ?_
 refine To.agP ⟨⟨k+1,rfl,rfl,rfl,om⟩,sb⟩
 refine Jz 8 ?_
 refine Jqf (qehS_fn F hF) (by show owns (F.kids eX)++(owns gl++[])=[];rw[(Fl.lax eX F).owns];rfl) (ocs (oca 2 rfl) (ocs (oca 3 rfl) (ocn _))) ?_
 rintro _ _ ⟨rfl,rfl⟩
 refine⟨rfl,?_⟩
 refine Jz 4 ?_
 refine Jdel3 (Jdel2 (Jdel1 (Jdel0 (Je1 results83 ?_))))
 exact⟨rfl,rfl⟩
theorem qcheck_fn(F:Fl)(hF:GoodX F):
    Dz 52 [.agg (cF F []).toArray] [all (F.kids eX),glc] (fun v Γ'=>v= .int .i64 0∧Γ'=[]):=by
 refine Does.en func52 ntmps52 fun w0=>?_
 refine Js (To.g (Jbo fun b1=>?_))
 refine Jz 8 ?_
 refine Jqf (qsmall_fn F hF) (by show owns (F.kids eX)++(owns gl++[])=[];rw[(Fl.lax eX F).owns];rfl) (ocs (oca 1 rfl) (ocs (oca 2 rfl) (ocn _))) ?_
 rintro _ _ ⟨rfl,rfl⟩
 refine⟨rfl,?_⟩
 refine Jz 8 ?_
 refine Jqf (qnamed_fn F hF) (by show owns (F.kids eX)++(owns gl++[])=[];rw[(Fl.lax eX F).owns];rfl) (ocs (oca 1 rfl) (ocs (oca 2 rfl) (ocn _))) ?_
 rintro _ _ ⟨rfl,rfl⟩
 refine⟨rfl,?_⟩
 refine Jz 8 ?_
 refine Jqf (qformed_fn F hF) (by show owns (F.kids eX)++(owns gl++[])=[];rw[(Fl.lax eX F).owns];rfl) (ocs (oca 1 rfl) (ocs (oca 2 rfl) (ocn _))) ?_
 rintro _ _ ⟨rfl,rfl⟩
 refine⟨rfl,?_⟩
 refine Jz 14 ?_
 refine Jdel2 (Jdel1 (Jdel0 (Je1 results52 ?_)))
 exact⟨rfl,rfl⟩
end Go.Proofs.YtlihklladkagpaaGreatDoor

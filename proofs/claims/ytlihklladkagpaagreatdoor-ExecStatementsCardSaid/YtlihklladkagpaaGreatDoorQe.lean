/- Own text. -/
import Derived.Test.YtlihklladkagpaaGreatDoorQd
set_option linter.unusedVariables false
set_option linter.unusedSimpArgs false
set_option maxHeartbeats 2000000
set_option maxRecDepth 100000
namespace Go.Proofs.YtlihklladkagpaaGreatDoor
open Go.Proofs.Tryz
open Go.RowKit Go.Flow Go.Mem Go.Sep Go.In
structure Hd.Good(h:Hd):Prop where
 nm:Qt h.name
 ps:h.ps.length≤2
 psn:∀p∈h.ps,Qt p
 len:h.body.length≤12
 low:Dy (Ba h.body)
 fine:Gy (Ba h.body)
 cnt:Ca (Ba h.body)≤12
 dep:Dr (Ba h.body)≤4
def XT(v:Vr):Prop:=Qt v.name∧(v.ty=1∧0≤v.init∧v.init≤3∨(v.ty=2∨v.ty=3)∧v.init=0)
structure Cm.Good(c:Cm):Prop where
 nm:Qt c.name
 vars:c.vars.length≤5
 var:∀v∈c.vars,XT v
 vers1:1≤c.vers.length
 vers2:c.vers.length≤2
 ver:∀v∈c.vers,v.l.length≤3∧∀h∈v.l,h.Good
structure Ol(F:Fl):Prop where
 nm:Qt F.name
 flags:F.flags.length≤2
 flag:∀x∈F.flags,Qt x.name
 links:F.links.length≤9
 link:∀x∈F.links,Qt x.src∧Qt x.dst∧1≤x.lat∧x.lat≤3
 comps1:1≤F.comps.length
 comps:F.comps.length≤3
 comp:∀c∈F.comps,c.Good
theorem BO{c n:Nat}{s:ByteArray}(h:s∈nms c n):∃k,k<n∧s=nm c k:=by
 unfold nms at h
 obtain⟨k,hk,rfl⟩:=aEv.1 h
 exact⟨k,List.mem_range.1 hk,rfl⟩
theorem SF{ints tables:Nat}(hi:ints≤3){v:Vr}(h:v∈varsOf ints tables):XT v:=by
 unfold varsOf at h
 rcases aFi.1 h with h|h
 · rcases aFi.1 h with h|h
   · obtain⟨k,hk,rfl⟩:=aEv.1 h
     have:=List.mem_range.1 hk
     exact⟨pY om, .inl ⟨rfl,by show(0:Int)≤(k:Int);omega,by show(k:Int)≤3;omega⟩⟩
   ·rw[aEr.1 h];exact⟨qB, .inr ⟨.inl rfl,rfl⟩⟩
 · obtain⟨k,hk,rfl⟩:=aEv.1 h
   exact⟨Wy, .inr ⟨.inr rfl,rfl⟩⟩
theorem MF(a b:Nat):(varsOf a b).length=a+1+b:=by
 unfold varsOf;simp only[lap,aEg,List.length_range,lc1,ln0]
theorem uG{F:Fl}(h:Ku F.pure):Ol F:=by
 obtain⟨ars,ho,hl,hg⟩:=h.comps
 have hcl:F.comps.length=ars.length:=by have h1:(F.comps.map Cm.pure).length=ars.length:=hl;rwa[aEg]at h1
 have hll:=h.links
 refine⟨by have h1:F.name=_:=h.name;rw[h1];exact RX,h.flags.1,fun x hx=>?_,hll.1,fun x hx=>?_,by have:=ho.1;omega,by have:=ho.1;omega,fun c hc=>?_⟩
 · have h1:F.flags.map Fg.name=nms 102 F.flags.length:=h.flags.2
   have h3:F.flags.length≤2:=h.flags.1
   obtain⟨k,hk,e⟩:=BO (show x.name∈nms 102 F.flags.length by rw[←h1];exact aEv.2 ⟨x,hx,rfl⟩)
   rw[e];exact LQ om
 · obtain⟨i,j,hi,hj,e1,e2,e3⟩:=hll.2.1 x hx
   have hp:F.pure.comps.length=F.comps.length:=aEg ..
   have h3:=ho.1
   rw[e1,e2];exact⟨qA om,qA om,e3⟩
 · obtain⟨i,hi⟩:=aFt hc
   have hpi:F.pure.comps[i]?=some c.pure:=by
    show(F.comps.map Cm.pure)[i]?=_
    rw[aEp,hi];rfl
   obtain⟨ct,ar,ok⟩:=h.okC hpi
   have hil:i<F.comps.length:=(aEc.1 hi).1
   have g:=hg i _ hpi
   obtain⟨_,_,_,_,_,_,_,_,hvn,_⟩:=g.vers
   have hcv:c.vars=varsOf ct.ints ct.tables:=ok.vars
   have hci:=ok.ok.ints
   have hct:=ok.ok.tables
   have har:=ok.ok.each ar (mog ok.arr)
   have hvl:(c.vers.map Vs.pure).length=c.vers.length:=aEg ..
   have hvn:1≤(c.vers.map Vs.pure).length∧(c.vers.map Vs.pure).length≤2:=hvn
   refine⟨by have h1:c.name=nC i:=ok.name;rw[h1];exact qA (by have:=ho.1;omega),by rw[hcv,MF];omega,fun v hv=>SF hci.2 (by rw[←hcv];exact hv),by omega,by omega,fun v hv=>?_⟩
   have gv:=ok.vers v.pure (aEv.2 ⟨v,hv,rfl⟩)
   have hpl:v.pure.length=v.l.length:=aEg ..
   have gl:=gv.2.1
   refine⟨by omega,fun x hx=>?_⟩
   obtain⟨k,hk⟩:=aFt hx
   have hkl:k<v.l.length:=(aEc.1 hk).1
   have gh:=gv.2.2 k x.pure (by show(v.l.map Hd.pure)[k]?=_;rw[aEp,hk];rfl)
   obtain⟨np,hnp,hps,hst⟩:=gh.ps
   have hnp2:np≤2:=har.2.2 np (mog hnp)
   have hps:x.ps=nms 112 np:=hps
   have hst:∀s∈Ba x.body,StE ct np 3 s:=hst
   have hcn:Ca (Ba x.body)≤12:=gh.cnt
   have hbl:(Ba x.body).length=x.body.length:=by rw[Je,aEg]
   have hb:=xQ (Ba x.body)
   refine⟨by have h1:x.name=nm 104 k:=gh.name;rw[h1];exact xL om,by rw[hps,Dq];exact hnp2,fun p hp=>?_,by omega,Yp fun s hs=>(hst s hs).low ok.ok (aGd (fH hs) hcn),Mq fun s hs=>((hst s hs).fine ok.ok hnp2).1,hcn,Mo fun s hs=>((hst s hs).fine ok.ok hnp2).2⟩
   rw[hps]at hp
   obtain⟨j,hj,rfl⟩:=BO hp
   exact LP om
theorem Ol.low{F:Fl}(h:Ol F):aBs F:=⟨h.flags,h.links,h.comps,fun c hc=>⟨(h.comp c hc).vars,fun v hv=>by
 rcases((h.comp c hc).var v hv).2 with h1|h1<;>omega⟩,fun c hc=>⟨(h.comp c hc).vers2,fun v hv=>⟨((h.comp c hc).ver v hv).1,fun x hx=>by
  have g:=((h.comp c hc).ver v hv).2 x hx
  exact⟨g.ps,g.len,g.low⟩⟩⟩⟩
theorem FO{P:Program}{o:Oper}{ρ:Cb}{Γ:List Ai}{x:Operand}{κ β:Type} [DecidableEq κ]{ek:κ→Value}{evl:β→Value}{b i:Nat}{m:List (κ×β)}{t K E:TypeId}(ho:o.op= .call {callee:= .builtin .len,args:=#[x],argTypes:=#[t]})(ht:P.underlying t=some (.map K E))(hx:ev ρ x=some (.map (some b)))(hi:Γ[i]?=some (Zi ek evl b m)):Rd P o ρ Γ (nv m.length):=fun a w ha hs=>by
 obtain⟨es,clock,h1,h2⟩:=hs _ (mog hi)
 have h3:es.size=m.length:=by
  have:=congrArg List.length h2
  unfold entries Kb at this
  rwa[aEg,aEg,Array.length_toList]at this
 unfold execOp
 simp[ho,resolve,invoke,builtin,ha.eval hx,Builtin.len_,run_underlying ht,getObj,Sem.run,h1,h3,goInt]
theorem uH{κ β:Type} [DecidableEq κ](x:κ)(v:β):∀m:List (κ×β),(bH m x v).length≤m.length+1
 |[]=>aEu _
 | p::r=>by
   have:=uH x v r
   unfold bH
   split
   ·exact Nat.le_succ _
   ·show(bH r x v).length+1≤r.length+1+1;omega
theorem yA(h:Hd)(hg:h.Good):
    Dz 132 [.agg (Me h).toArray] [all (h.kids eX),glc] (fun v Γ'=>v= .bool true∧Γ'=[]):=by
 refine Am func132 ntmps132 fun w0=>?_
 refine Js (To.g (Jbo fun b1=>?_))
 refine Jz 5 ?_
 refine Db 1 rfl (lsG Bw Dh h.Ab h.body) (Dx _ _ _ _) (Rk (k:=eX)) (Jz 4 ?_)
 refine Jr (Cr (v':= .bool false) (congrArg Value.bool (aEo (by have:=hg.ps;omega))) (Rd.gtr rfl rfl rfl)) ?_
 refine Jz 3 ?_
 refine Jqf (qM h.body h.Ab h.qb hg.len hg.low (aGd hg.cnt (by decide))) (by show owns (lsG Bw Dh h.Ab h.body)++[]=[];rw[(Dx Bw Dh h.Ab h.body).owns];rfl) (ocs (oca 0 rfl) (ocn _)) ?_
 rintro _ _ ⟨rfl,rfl⟩
 refine⟨rfl,?_⟩
 refine Jr (Cr (v':= .bool false) (congrArg Value.bool (aEo (by have:=hg.cnt;omega))) (Rd.gtr rfl rfl rfl)) ?_
 refine Jz 4 ?_
 refine Jqf (jX h.body h.Ab h.qb hg.len hg.low (aGd hg.dep (by decide))) (by show owns (lsG Bw Dh h.Ab h.body)++[]=[];rw[(Dx Bw Dh h.Ab h.body).owns];rfl) (ocs (oca 0 rfl) (ocn _)) ?_
 rintro _ _ ⟨rfl,rfl⟩
 refine⟨rfl,?_⟩
 refine Jr (Cr (v':= .bool false) (congrArg Value.bool (aEo (by have:=hg.dep;omega))) (Rd.gtr rfl rfl rfl)) ?_
 refine Jz 10 ?_
 refine Jqf (qN h.body h.Ab h.qb hg.len hg.low hg.fine) (by show owns (lsG Bw Dh h.Ab h.body)++(owns gl++[])=[];rw[(Dx Bw Dh h.Ab h.body).owns];rfl) (ocs (oca 0 rfl) (ocs (oca 3 rfl) (ocn _))) ?_
 rintro _ _ ⟨rfl,rfl⟩
 refine⟨rfl,?_⟩
 refine Jz 4 ?_
 refine Dl (Cu (Df (Du (Je1 results132 ?_))))
 exact⟨rfl,rfl⟩
theorem yB(h:Hd)(hg:h.Good):
    Dz 134 [.agg (Me h).toArray] [all (h.kids eX),glc] (fun v Γ'=>v= .bool true∧Γ'=[]):=by
 have hps2:=hg.ps
 refine Am func134 ntmps134 fun w0=>?_
 refine Js (To.g (Jbo fun b1=>?_))
 refine Jz 7 ?_
 refine Jvf (Jv hg.nm) rfl (Nj 2 rfl) ?_
 refine Jz 5 ?_
 refine Db 1 rfl (lsG Bw Dh h.Ab h.body) (Dx _ _ _ _) (Rk (k:=eX)) (To.one 2 rfl (ros aMb h.Ap h.ps) rfl (fI) (Jz 8 ?_))
 refine Cw (fun s g mz ρ Γ=>∃(k:Nat),ρ=[s 1,s 3,s 10,s 11,(12,nv k)]∧Γ=[g 2,g 0,g 1,glc]∧mz=h.ps.length-k∧(k≤h.ps.length)) ⟨⟨0,rfl,rfl,rfl,om⟩,sb⟩ ?_
 rintro mz _ _ ⟨k,rfl,rfl,rfl,hk⟩
 refine Jz 6 ?_
 refine Jcp rfl ?_ ?_<;>intro c13
 obtain⟨p,hp⟩:=exg h.ps k om
 refine Jz 15 ?_
 refine Jvf (Jv (hg.psn p (mog hp))) rfl (Nj 3 rfl) ?_
 refine Jz 10 ?_
 refine Hu ⟨⟨k+1,rfl,rfl,rfl,om⟩,sb⟩
 refine Jz 11 ?_
 refine Jqf (qO h.body h.Ab h.qb hg.len hg.low hg.fine) (by show owns (lsG Bw Dh h.Ab h.body)++(owns gl++[])=[];rw[(Dx Bw Dh h.Ab h.body).owns];rfl) (ocs (oca 2 rfl) (ocs (oca 3 rfl) (ocn _))) ?_
 rintro _ _ ⟨rfl,rfl⟩
 refine⟨rfl,?_⟩
 refine Jz 5 ?_
 refine Dl (Cu (Df (Du (Je1 results134 ?_))))
 exact⟨rfl,rfl⟩
theorem uI(h:Hd)(hg:h.Good):
    Dz 138 [.agg (Me h).toArray] [all (h.kids eX),glc] (fun v Γ'=>v= .bool true∧Γ'=[]):=by
 refine Am func138 ntmps138 fun w0=>?_
 refine Js (To.g (Jbo fun b1=>?_))
 refine Jz 4 ?_
 refine Db 1 rfl (lsG Bw Dh h.Ab h.body) (Dx _ _ _ _) (Rk (k:=eX)) (Jz 3 ?_)
 refine Jqf (qP h.body h.Ab h.qb hg.len hg.low hg.fine) (by show owns (lsG Bw Dh h.Ab h.body)++(owns gl++[])=[];rw[(Dx Bw Dh h.Ab h.body).owns];rfl) (ocs (oca 0 rfl) (ocs (oca 3 rfl) (ocn _))) ?_
 rintro _ _ ⟨rfl,rfl⟩
 refine⟨rfl,?_⟩
 refine Jz 4 ?_
 refine Dl (Cu (Df (Du (Je1 results138 ?_))))
 exact⟨rfl,rfl⟩
theorem SG(F:Fl)(hF:Ol F):
    Dz 131 [.agg (cF F []).toArray, .func (.func 132) #[] #[]] [all (F.kids eX),glc] (fun v Γ'=>v= .bool true∧Γ'=[]):=by
 have hFc:=hF.comps
 refine Am func131 ntmps131 fun w0=>?_
 refine Js (To.g (Jbo fun b2=>?_))
 refine Jz 5 ?_
 refine To.one 1 rfl (ros Jl F.Ac F.comps) rfl (Jc (k:=eX)) (Jz 8 ?_)
 refine Cw (fun s g mz ρ Γ=>∃(k:Nat),ρ=[s 1,s 12,s 13,(14,nv k)]∧Γ=[g 0,g 2,glc]∧mz=F.comps.length-k∧(k≤F.comps.length)) ⟨⟨0,rfl,rfl,rfl,om⟩,sb⟩ ?_
 rintro mz _ _ ⟨k,rfl,rfl,rfl,hk⟩
 refine Jz 6 ?_
 refine Jcp rfl ?_ ?_<;>intro c15
 obtain⟨c,hc⟩:=exg F.comps k om
 have hcg:=hF.comp c (mog hc)
 have hcv:=hcg.vers2
 have hcv1:=hcg.vers1
 have hcr:=hcg.vars
 refine Jz 8 ?_
 refine Jal fun b6=>?_
 refine Jz 4 ?_
 refine Db 2 rfl (c.kids eX) (Cm.lax eX c) (Fj hc) (To.one 0 rfl (ros Ik c.An c.vers) rfl (Lm (k:=eX)) (Jz 8 ?_))
 refine Cw (fun s g mz ρ Γ=>∃(j:Nat),ρ=[s 1,s 12,s 13,s 14,s 19,s 20,(21,nv j)]∧Γ=[g 3,g 4,glc,g 0,g 1]∧mz=c.vers.length-j∧(j≤c.vers.length)) ⟨⟨0,rfl,rfl,rfl,om⟩,sb⟩ ?_
 rintro mz _ _ ⟨j,rfl,rfl,rfl,hj⟩
 refine Jz 6 ?_
 refine Jcp rfl ?_ ?_<;>intro c22
 obtain⟨v,hv⟩:=exg c.vers j om
 have hvg:=hcg.ver v (mog hv)
 have hvl:=hvg.1
 refine Jz 8 ?_
 refine Jal fun b8=>?_
 refine Jz 4 ?_
 refine Db 5 rfl (v.kids eX) (Vs.lax eX v) (Ky hv) (To.one 0 rfl (ros Me v.A v.l) rfl (Wl (k:=eX)) (Jz 8 ?_))
 refine Cw (fun s g mz ρ Γ=>∃(i:Nat),ρ=[s 1,s 12,s 13,s 14,s 19,s 20,s 21,s 26,s 27,(28,nv i)]∧Γ=[g 3,g 4,glc,g 6,g 7,g 0,g 1]∧mz=v.l.length-i∧(i≤v.l.length)) ⟨⟨0,rfl,rfl,rfl,om⟩,sb⟩ ?_
 rintro mz _ _ ⟨i,rfl,rfl,rfl,hi⟩
 refine Jz 6 ?_
 refine Jcp rfl ?_ ?_<;>intro c29
 obtain⟨h,hh⟩:=exg v.l i om
 have hg:=hvg.2 h (mog hh)
 refine Jz 8 ?_
 refine Jal fun b10=>?_
 refine Jz 4 ?_
 refine Db 7 rfl (h.kids eX) (Hd.lax eX h) (Ur hh) (Jz 3 ?_)
 refine JcQ rfl rfl rfl (Ent.func (first:=[]) (captured:=[]) rfl rfl rfl (kc.h 132 rfl)) (yA h hg) (by show owns (h.kids eX)++(owns gl++[])=[];rw[(Hd.lax eX h).owns];rfl) (ocs (oca 0 rfl) (ocs (oca 4 rfl) (ocn _))) ?_
 rintro _ _ ⟨rfl,rfl⟩
 refine⟨rfl,?_⟩
 refine Jz 12 ?_
 refine Cg ⟨⟨i+1,rfl,rfl,rfl,om⟩,sb⟩
 refine Jz 11 ?_
 refine Cg ⟨⟨j+1,rfl,rfl,rfl,om⟩,sb⟩
 refine Jz 11 ?_
 refine Cg ⟨⟨k+1,rfl,rfl,rfl,om⟩,sb⟩
 refine Jz 11 ?_
 refine Cu (Df (Du (Je1 results131 ?_)))
 exact⟨rfl,rfl⟩
theorem SH(F:Fl)(hF:Ol F):
    Dz 131 [.agg (cF F []).toArray, .func (.func 134) #[] #[]] [all (F.kids eX),glc] (fun v Γ'=>v= .bool true∧Γ'=[]):=by
 have hFc:=hF.comps
 refine Am func131 ntmps131 fun w0=>?_
 refine Js (To.g (Jbo fun b2=>?_))
 refine Jz 5 ?_
 refine To.one 1 rfl (ros Jl F.Ac F.comps) rfl (Jc (k:=eX)) (Jz 8 ?_)
 refine Cw (fun s g mz ρ Γ=>∃(k:Nat),ρ=[s 1,s 12,s 13,(14,nv k)]∧Γ=[g 0,g 2,glc]∧mz=F.comps.length-k∧(k≤F.comps.length)) ⟨⟨0,rfl,rfl,rfl,om⟩,sb⟩ ?_
 rintro mz _ _ ⟨k,rfl,rfl,rfl,hk⟩
 refine Jz 6 ?_
 refine Jcp rfl ?_ ?_<;>intro c15
 obtain⟨c,hc⟩:=exg F.comps k om
 have hcg:=hF.comp c (mog hc)
 have hcv:=hcg.vers2
 have hcv1:=hcg.vers1
 have hcr:=hcg.vars
 refine Jz 8 ?_
 refine Jal fun b6=>?_
 refine Jz 4 ?_
 refine Db 2 rfl (c.kids eX) (Cm.lax eX c) (Fj hc) (To.one 0 rfl (ros Ik c.An c.vers) rfl (Lm (k:=eX)) (Jz 8 ?_))
 refine Cw (fun s g mz ρ Γ=>∃(j:Nat),ρ=[s 1,s 12,s 13,s 14,s 19,s 20,(21,nv j)]∧Γ=[g 3,g 4,glc,g 0,g 1]∧mz=c.vers.length-j∧(j≤c.vers.length)) ⟨⟨0,rfl,rfl,rfl,om⟩,sb⟩ ?_
 rintro mz _ _ ⟨j,rfl,rfl,rfl,hj⟩
 refine Jz 6 ?_
 refine Jcp rfl ?_ ?_<;>intro c22
 obtain⟨v,hv⟩:=exg c.vers j om
 have hvg:=hcg.ver v (mog hv)
 have hvl:=hvg.1
 refine Jz 8 ?_
 refine Jal fun b8=>?_
 refine Jz 4 ?_
 refine Db 5 rfl (v.kids eX) (Vs.lax eX v) (Ky hv) (To.one 0 rfl (ros Me v.A v.l) rfl (Wl (k:=eX)) (Jz 8 ?_))
 refine Cw (fun s g mz ρ Γ=>∃(i:Nat),ρ=[s 1,s 12,s 13,s 14,s 19,s 20,s 21,s 26,s 27,(28,nv i)]∧Γ=[g 3,g 4,glc,g 6,g 7,g 0,g 1]∧mz=v.l.length-i∧(i≤v.l.length)) ⟨⟨0,rfl,rfl,rfl,om⟩,sb⟩ ?_
 rintro mz _ _ ⟨i,rfl,rfl,rfl,hi⟩
 refine Jz 6 ?_
 refine Jcp rfl ?_ ?_<;>intro c29
 obtain⟨h,hh⟩:=exg v.l i om
 have hg:=hvg.2 h (mog hh)
 refine Jz 8 ?_
 refine Jal fun b10=>?_
 refine Jz 4 ?_
 refine Db 7 rfl (h.kids eX) (Hd.lax eX h) (Ur hh) (Jz 3 ?_)
 refine JcQ rfl rfl rfl (Ent.func (first:=[]) (captured:=[]) rfl rfl rfl (kc.h 134 rfl)) (yB h hg) (by show owns (h.kids eX)++(owns gl++[])=[];rw[(Hd.lax eX h).owns];rfl) (ocs (oca 0 rfl) (ocs (oca 4 rfl) (ocn _))) ?_
 rintro _ _ ⟨rfl,rfl⟩
 refine⟨rfl,?_⟩
 refine Jz 12 ?_
 refine Cg ⟨⟨i+1,rfl,rfl,rfl,om⟩,sb⟩
 refine Jz 11 ?_
 refine Cg ⟨⟨j+1,rfl,rfl,rfl,om⟩,sb⟩
 refine Jz 11 ?_
 refine Cg ⟨⟨k+1,rfl,rfl,rfl,om⟩,sb⟩
 refine Jz 11 ?_
 refine Cu (Df (Du (Je1 results131 ?_)))
 exact⟨rfl,rfl⟩
theorem SK(F:Fl)(hF:Ol F):
    Dz 131 [.agg (cF F []).toArray, .func (.func 138) #[] #[]] [all (F.kids eX),glc] (fun v Γ'=>v= .bool true∧Γ'=[]):=by
 have hFc:=hF.comps
 refine Am func131 ntmps131 fun w0=>?_
 refine Js (To.g (Jbo fun b2=>?_))
 refine Jz 5 ?_
 refine To.one 1 rfl (ros Jl F.Ac F.comps) rfl (Jc (k:=eX)) (Jz 8 ?_)
 refine Cw (fun s g mz ρ Γ=>∃(k:Nat),ρ=[s 1,s 12,s 13,(14,nv k)]∧Γ=[g 0,g 2,glc]∧mz=F.comps.length-k∧(k≤F.comps.length)) ⟨⟨0,rfl,rfl,rfl,om⟩,sb⟩ ?_
 rintro mz _ _ ⟨k,rfl,rfl,rfl,hk⟩
 refine Jz 6 ?_
 refine Jcp rfl ?_ ?_<;>intro c15
 obtain⟨c,hc⟩:=exg F.comps k om
 have hcg:=hF.comp c (mog hc)
 have hcv:=hcg.vers2
 have hcv1:=hcg.vers1
 have hcr:=hcg.vars
 refine Jz 8 ?_
 refine Jal fun b6=>?_
 refine Jz 4 ?_
 refine Db 2 rfl (c.kids eX) (Cm.lax eX c) (Fj hc) (To.one 0 rfl (ros Ik c.An c.vers) rfl (Lm (k:=eX)) (Jz 8 ?_))
 refine Cw (fun s g mz ρ Γ=>∃(j:Nat),ρ=[s 1,s 12,s 13,s 14,s 19,s 20,(21,nv j)]∧Γ=[g 3,g 4,glc,g 0,g 1]∧mz=c.vers.length-j∧(j≤c.vers.length)) ⟨⟨0,rfl,rfl,rfl,om⟩,sb⟩ ?_
 rintro mz _ _ ⟨j,rfl,rfl,rfl,hj⟩
 refine Jz 6 ?_
 refine Jcp rfl ?_ ?_<;>intro c22
 obtain⟨v,hv⟩:=exg c.vers j om
 have hvg:=hcg.ver v (mog hv)
 have hvl:=hvg.1
 refine Jz 8 ?_
 refine Jal fun b8=>?_
 refine Jz 4 ?_
 refine Db 5 rfl (v.kids eX) (Vs.lax eX v) (Ky hv) (To.one 0 rfl (ros Me v.A v.l) rfl (Wl (k:=eX)) (Jz 8 ?_))
 refine Cw (fun s g mz ρ Γ=>∃(i:Nat),ρ=[s 1,s 12,s 13,s 14,s 19,s 20,s 21,s 26,s 27,(28,nv i)]∧Γ=[g 3,g 4,glc,g 6,g 7,g 0,g 1]∧mz=v.l.length-i∧(i≤v.l.length)) ⟨⟨0,rfl,rfl,rfl,om⟩,sb⟩ ?_
 rintro mz _ _ ⟨i,rfl,rfl,rfl,hi⟩
 refine Jz 6 ?_
 refine Jcp rfl ?_ ?_<;>intro c29
 obtain⟨h,hh⟩:=exg v.l i om
 have hg:=hvg.2 h (mog hh)
 refine Jz 8 ?_
 refine Jal fun b10=>?_
 refine Jz 4 ?_
 refine Db 7 rfl (h.kids eX) (Hd.lax eX h) (Ur hh) (Jz 3 ?_)
 refine JcQ rfl rfl rfl (Ent.func (first:=[]) (captured:=[]) rfl rfl rfl (kc.h 138 rfl)) (uI h hg) (by show owns (h.kids eX)++(owns gl++[])=[];rw[(Hd.lax eX h).owns];rfl) (ocs (oca 0 rfl) (ocs (oca 4 rfl) (ocn _))) ?_
 rintro _ _ ⟨rfl,rfl⟩
 refine⟨rfl,?_⟩
 refine Jz 12 ?_
 refine Cg ⟨⟨i+1,rfl,rfl,rfl,om⟩,sb⟩
 refine Jz 11 ?_
 refine Cg ⟨⟨j+1,rfl,rfl,rfl,om⟩,sb⟩
 refine Jz 11 ?_
 refine Cg ⟨⟨k+1,rfl,rfl,rfl,om⟩,sb⟩
 refine Jz 11 ?_
 refine Cu (Df (Du (Je1 results131 ?_)))
 exact⟨rfl,rfl⟩
theorem MG(y:Vr)(hy:XT y):
    Dz 137 [.agg (Iy y).toArray] [] (fun v _=>v= .bool true):=by
 refine Am func137 ntmps137 fun w0=>?_
 refine Js (To.g (Jbo fun b1=>?_))
 refine Jz 17 ?_
 refine Jcp rfl ?_ ?_<;>intro c5
 have hv2:=hy.2
 refine Jz 4 ?_
 refine Jr (Cr (v':= .bool true) (congrArg Value.bool (aEk (by intro h;omega))) (Rd.neq rfl rfl rfl)) ?_
 refine Jz 6 ?_
 refine Du (Je1 results137 ?_)
 rfl
 refine Jz 6 ?_
 refine Jcp rfl ?_ ?_<;>intro c10
 have hv2:=hy.2
 refine Jz 4 ?_
 refine Jr (Cr (v':= .bool true) (congrArg Value.bool (aEk om)) (Rd.eql rfl rfl rfl)) ?_
 refine Jz 11 ?_
 refine Du (Je1 results137 ?_)
 rfl
 refine Jz 6 ?_
 refine Jcp rfl ?_ ?_<;>intro c20
 have hv2:=hy.2
 refine Jz 4 ?_
 refine Jr (Cr (v':= .bool true) (congrArg Value.bool (aEk om)) (Rd.eql rfl rfl rfl)) ?_
 refine Jz 6 ?_
 refine Du (Je1 results137 ?_)
 rfl
 exfalso;rcases hy.2 with h|h<;>omega
theorem yC(F:Fl)(hF:Ol F):
    Dz 85 [.agg (cF F []).toArray] [all (F.kids eX),glc] (fun v Γ'=>v= .bool true∧Γ'=[]):=by
 have hFc:=hF.comps
 have hFl:=hF.links
 refine Am func85 ntmps85 fun w0=>?_
 refine Js (To.g (Jbo fun b1=>?_))
 refine Jz 5 ?_
 refine To.one 1 rfl (ros Lb F.Al F.links) rfl (Uq (k:=eX)) (Jz 8 ?_)
 refine Cw (fun s g mz ρ Γ=>∃(kz:Nat),ρ=[s 1,s 10,s 11,(12,nv kz)]∧Γ=[g 1,g 0,g 2,glc]∧mz=F.links.length-kz∧(kz≤F.links.length)) ⟨⟨0,rfl,rfl,rfl,om⟩,sb⟩ ?_
 rintro mz _ _ ⟨kz,rfl,rfl,rfl,hkz⟩
 refine Jz 6 ?_
 refine Jcp rfl ?_ ?_<;>intro c13
 obtain⟨z,hz⟩:=exg F.links kz om
 have hzl:=hF.link z (mog hz)
 have hz1:=hzl.2.2.1
 have hz2:=hzl.2.2.2
 refine Jz 8 ?_
 refine Jal fun b4=>?_
 refine Jz 7 ?_
 refine Jr (Cr (v':= .bool false) (congrArg Value.bool (aEo om)) (Rd.lss rfl rfl rfl)) ?_
 refine Jz 3 ?_
 refine Jr (Cr (v':= .bool false) (congrArg Value.bool (aEo om)) (Rd.gtr rfl rfl rfl)) ?_
 refine Jz 12 ?_
 refine Cg ⟨⟨kz+1,rfl,rfl,rfl,om⟩,sb⟩
 refine Jz 7 ?_
 refine To.one 2 rfl (ros Jl F.Ac F.comps) rfl (Jc (k:=eX)) (Jz 8 ?_)
 refine Cw (fun s g mz ρ Γ=>∃(k:Nat),ρ=[s 1,s 26,s 27,(28,nv k)]∧Γ=[g 1,g 0,g 3,glc]∧mz=F.comps.length-k∧(k≤F.comps.length)) ⟨⟨0,rfl,rfl,rfl,om⟩,sb⟩ ?_
 rintro mz _ _ ⟨k,rfl,rfl,rfl,hk⟩
 refine Jz 6 ?_
 refine Jcp rfl ?_ ?_<;>intro c29
 obtain⟨c,hc⟩:=exg F.comps k om
 have hcg:=hF.comp c (mog hc)
 have hcv:=hcg.vers2
 have hcv1:=hcg.vers1
 have hcr:=hcg.vars
 refine Jz 8 ?_
 refine Jal fun b6=>?_
 refine Jz 4 ?_
 refine Db 3 rfl (c.kids eX) (Cm.lax eX c) (Fj hc) (To.one 0 rfl (ros Iy c.Av c.vars) rfl (Rj (k:=eX)) (Jz 8 ?_))
 refine Cw (fun s g mz ρ Γ=>∃(j:Nat),ρ=[s 1,s 26,s 27,s 28,s 33,s 34,(35,nv j)]∧Γ=[g 3,g 4,g 5,glc,g 0,g 1]∧mz=c.vars.length-j∧(j≤c.vars.length)) ⟨⟨0,rfl,rfl,rfl,om⟩,sb⟩ ?_
 rintro mz _ _ ⟨j,rfl,rfl,rfl,hj⟩
 refine Jz 6 ?_
 refine Jcp rfl ?_ ?_<;>intro c36
 obtain⟨y,hy⟩:=exg c.vars j om
 refine Jz 8 ?_
 refine Jal fun b8=>?_
 refine Jz 6 ?_
 refine Jvf (MG y (hcg.var y (mog hy))) rfl (ocn _) ?_
 refine Jz 12 ?_
 refine Cg ⟨⟨j+1,rfl,rfl,rfl,om⟩,sb⟩
 refine Jz 11 ?_
 refine Cg ⟨⟨k+1,rfl,rfl,rfl,om⟩,sb⟩
 refine Jz 8 ?_
 refine Jqf (SK F hF) (by show owns (F.kids eX)++(owns gl++[])=[];rw[(Fl.lax eX F).owns];rfl) (ocs (oca 2 rfl) (ocs (oca 3 rfl) (ocn _))) ?_
 rintro _ _ ⟨rfl,rfl⟩
 refine⟨rfl,?_⟩
 refine Jz 4 ?_
 refine Dl (Cu (Df (Du (Je1 results85 ?_))))
 exact⟨rfl,rfl⟩
theorem FP(F:Fl)(hF:Ol F):
    Dz 84 [.agg (cF F []).toArray] [all (F.kids eX),glc] (fun v Γ'=>v= .bool true∧Γ'=[]):=by
 have hFc:=hF.comps
 have hFl:=hF.links
 have hFf:=hF.flags
 refine Am func84 ntmps84 fun w0=>?_
 refine Js (To.g (Jbo fun b1=>?_))
 refine Jz 7 ?_
 refine Jvf (Jv hF.nm) rfl (Nj 2 rfl) ?_
 refine Jz 5 ?_
 refine To.one 1 rfl (ros Gx F.Af F.flags) rfl (Qh (k:=eX)) (Jz 8 ?_)
 refine Cw (fun s g mz ρ Γ=>∃(f0:Nat),ρ=[s 1,s 3,s 16,s 17,(18,nv f0)]∧Γ=[g 1,g 0,g 2,glc]∧mz=F.flags.length-f0∧(f0≤F.flags.length)) ⟨⟨0,rfl,rfl,rfl,om⟩,sb⟩ ?_
 rintro mz _ _ ⟨f0,rfl,rfl,rfl,hf0⟩
 refine Jz 6 ?_
 refine Jcp rfl ?_ ?_<;>intro c19
 obtain⟨x,hx⟩:=exg F.flags f0 om
 refine Jz 8 ?_
 refine Jal fun b5=>?_
 refine Jz 8 ?_
 refine Jvf (Jv (hF.flag x (mog hx))) rfl (Nj 4 rfl) ?_
 refine Jz 10 ?_
 refine Cg ⟨⟨f0+1,rfl,rfl,rfl,om⟩,sb⟩
 refine Jz 7 ?_
 refine To.one 2 rfl (ros Lb F.Al F.links) rfl (Uq (k:=eX)) (Jz 8 ?_)
 refine Cw (fun s g mz ρ Γ=>∃(kz:Nat),ρ=[s 1,s 3,s 30,s 31,(32,nv kz)]∧Γ=[g 1,g 0,g 3,glc]∧mz=F.links.length-kz∧(kz≤F.links.length)) ⟨⟨0,rfl,rfl,rfl,om⟩,sb⟩ ?_
 rintro mz _ _ ⟨kz,rfl,rfl,rfl,hkz⟩
 refine Jz 6 ?_
 refine Jcp rfl ?_ ?_<;>intro c33
 obtain⟨z,hz⟩:=exg F.links kz om
 have hzl:=hF.link z (mog hz)
 have hz1:=hzl.2.2.1
 have hz2:=hzl.2.2.2
 refine Jz 8 ?_
 refine Jal fun b7=>?_
 refine Jz 8 ?_
 refine Jvf (Jv hzl.1) rfl (Nj 4 rfl) ?_
 refine Jz 4 ?_
 refine Jvf (Jv hzl.2.1) rfl (Nj 4 rfl) ?_
 refine Jz 10 ?_
 refine Cg ⟨⟨kz+1,rfl,rfl,rfl,om⟩,sb⟩
 refine Jz 7 ?_
 refine To.one 2 rfl (ros Jl F.Ac F.comps) rfl (Jc (k:=eX)) (Jz 8 ?_)
 refine Cw (fun s g mz ρ Γ=>∃(k:Nat),ρ=[s 1,s 3,s 49,s 50,(51,nv k)]∧Γ=[g 1,g 0,g 3,glc]∧mz=F.comps.length-k∧(k≤F.comps.length)) ⟨⟨0,rfl,rfl,rfl,om⟩,sb⟩ ?_
 rintro mz _ _ ⟨k,rfl,rfl,rfl,hk⟩
 refine Jz 6 ?_
 refine Jcp rfl ?_ ?_<;>intro c52
 obtain⟨c,hc⟩:=exg F.comps k om
 have hcg:=hF.comp c (mog hc)
 have hcv:=hcg.vers2
 have hcv1:=hcg.vers1
 have hcr:=hcg.vars
 refine Jz 8 ?_
 refine Jal fun b9=>?_
 refine Jz 9 ?_
 refine Jvf (Jv hcg.nm) rfl (Nj 4 rfl) ?_
 refine Jz 5 ?_
 refine Db 3 rfl (c.kids eX) (Cm.lax eX c) (Fj hc) (To.one 0 rfl (ros Iy c.Av c.vars) rfl (Rj (k:=eX)) (Jz 8 ?_))
 refine Cw (fun s g mz ρ Γ=>∃(j:Nat),ρ=[s 1,s 3,s 49,s 50,s 51,s 62,s 63,(64,nv j)]∧Γ=[g 3,g 4,g 5,glc,g 0,g 1]∧mz=c.vars.length-j∧(j≤c.vars.length)) ⟨⟨0,rfl,rfl,rfl,om⟩,sb⟩ ?_
 rintro mz _ _ ⟨j,rfl,rfl,rfl,hj⟩
 refine Jz 6 ?_
 refine Jcp rfl ?_ ?_<;>intro c65
 obtain⟨y,hy⟩:=exg c.vars j om
 refine Jz 8 ?_
 refine Jal fun b11=>?_
 refine Jz 8 ?_
 refine Jvf (Jv (hcg.var y (mog hy)).1) rfl (Nj 4 rfl) ?_
 refine Jz 10 ?_
 refine Cg ⟨⟨j+1,rfl,rfl,rfl,om⟩,sb⟩
 refine Jz 11 ?_
 refine Cg ⟨⟨k+1,rfl,rfl,rfl,om⟩,sb⟩
 refine Jz 10 ?_
 refine Jqf (SH F hF) (by show owns (F.kids eX)++(owns gl++[])=[];rw[(Fl.lax eX F).owns];rfl) (ocs (oca 2 rfl) (ocs (oca 3 rfl) (ocn _))) ?_
 rintro _ _ ⟨rfl,rfl⟩
 refine⟨rfl,?_⟩
 refine Jz 5 ?_
 refine Dl (Cu (Df (Du (Je1 results84 ?_))))
 exact⟨rfl,rfl⟩
theorem FQ(F:Fl)(hF:Ol F):
    Dz 83 [.agg (cF F []).toArray] [all (F.kids eX),glc] (fun v Γ'=>v= .bool true∧Γ'=[]):=by
 have hFc:=hF.comps
 have hFc1:=hF.comps1
 have hFl:=hF.links
 have hFf:=hF.flags
 refine Am func83 ntmps83 fun w0=>?_
 refine Js (To.g (Jbo fun b1=>?_))
 refine Jz 15 ?_
 refine Jr (Cr (v':= .bool false) (congrArg Value.bool (aEo om)) (Rd.eql rfl rfl rfl)) ?_
 refine Jz 2 ?_
 refine Jr (Cr (v':= .bool false) (congrArg Value.bool (aEo om)) (Rd.gtr rfl rfl rfl)) ?_
 refine Jz 5 ?_
 refine Jr (Cr (v':= .bool false) (congrArg Value.bool (aEo om)) (Rd.gtr rfl rfl rfl)) ?_
 refine Jz 5 ?_
 refine Jr (Cr (v':= .bool false) (congrArg Value.bool (aEo om)) (Rd.gtr rfl rfl rfl)) ?_
 refine Jz 8 ?_
 refine To.one 1 rfl (ros Jl F.Ac F.comps) rfl (Jc (k:=eX)) (Jz 8 ?_)
 refine Cw (fun s g mz ρ Γ=>∃(k:Nat),ρ=[s 1,s 34,s 35,(36,nv k)]∧Γ=[g 1,g 0,g 2,glc]∧mz=F.comps.length-k∧(k≤F.comps.length)) ⟨⟨0,rfl,rfl,rfl,om⟩,sb⟩ ?_
 rintro mz _ _ ⟨k,rfl,rfl,rfl,hk⟩
 refine Jz 6 ?_
 refine Jcp rfl ?_ ?_<;>intro c37
 obtain⟨c,hc⟩:=exg F.comps k om
 have hcg:=hF.comp c (mog hc)
 have hcv:=hcg.vers2
 have hcv1:=hcg.vers1
 have hcr:=hcg.vars
 refine Jz 8 ?_
 refine Jal fun b5=>?_
 refine Jz 17 ?_
 refine Jr (Cr (v':= .bool false) (congrArg Value.bool (aEo om)) (Rd.gtr rfl rfl rfl)) ?_
 refine Jz 2 ?_
 refine Jr (Cr (v':= .bool false) (congrArg Value.bool (aEo om)) (Rd.eql rfl rfl rfl)) ?_
 refine Jz 3 ?_
 refine Jr (Cr (v':= .bool false) (congrArg Value.bool (aEo om)) (Rd.gtr rfl rfl rfl)) ?_
 refine Jz 8 ?_
 refine Jmk rfl rfl rfl (lK (fun s:ByteArray=>Value.string s) (fun b:Bool=>Value.bool b) rfl) ?_
 rintro _ _ ⟨m55,rfl,rfl⟩
 refine Jz 5 ?_
 refine Db 4 rfl (c.kids eX) (Cm.lax eX c) (Fj hc) (To.one 0 rfl (ros Ik c.An c.vers) rfl (Lm (k:=eX)) (Jz 8 ?_))
 refine Cw (fun u g mz ρ Γ=>∃(mj:List (ByteArray×Bool)) (j:Nat),ρ=[u 1,u 34,u 35,u 36,u 7,u 57,u 58,(59,nv j)]∧Γ=[g 4,g 5,g 6,glc,g 0,g 1,Zi (fun s:ByteArray=>Value.string s) (fun b:Bool=>Value.bool b) m55 mj]∧mz=c.vers.length-j∧(j≤c.vers.length)∧(mj.length≤3*j)) ⟨⟨[],0,rfl,rfl,rfl,om,om⟩,sb⟩ ?_
 rintro mz _ _ ⟨mj,j,rfl,rfl,rfl,hj,hmj⟩
 refine Jz 6 ?_
 refine Jcp rfl ?_ ?_<;>intro c60
 obtain⟨v,hv⟩:=exg c.vers j om
 have hvg:=hcg.ver v (mog hv)
 have hvl:=hvg.1
 refine Jz 8 ?_
 refine Jal fun b9=>?_
 refine Jz 4 ?_
 refine Db 6 rfl (v.kids eX) (Vs.lax eX v) (Ky hv) (To.one 0 rfl (ros Me v.A v.l) rfl (Wl (k:=eX)) (Jz 8 ?_))
 refine Cw (fun u g mz ρ Γ=>∃(mi:List (ByteArray×Bool)) (i:Nat),ρ=[u 1,u 34,u 35,u 36,u 7,u 57,u 58,u 59,u 64,u 65,(66,nv i)]∧Γ=[g 3,g 4,g 5,glc,g 7,g 8,g 0,g 1,Zi (fun s:ByteArray=>Value.string s) (fun b:Bool=>Value.bool b) m55 mi]∧mz=v.l.length-i∧(i≤v.l.length)∧(mi.length≤3*j+i)) ⟨⟨mj,0,rfl,rfl,rfl,om,hmj⟩,sb⟩ ?_
 rintro mz _ _ ⟨mi,i,rfl,rfl,rfl,hi,hmi⟩
 refine Jz 6 ?_
 refine Jcp rfl ?_ ?_<;>intro c67
 obtain⟨h,hh⟩:=exg v.l i om
 have hg:=hvg.2 h (mog hh)
 refine Jz 8 ?_
 refine Jal fun b11=>?_
 refine Jz 7 ?_
 refine To.u (Up.mapUpdate (i:=9) (k:=h.name) (v:=true) (m:=mi) (Xo.str underlying9) rfl underlying285 rfl rfl rfl rfl) ?_
 refine Jz 8 ?_
 refine Cg ⟨⟨(bH mi h.name true),i+1,rfl,rfl,rfl,om,(by have:=uH h.name true mi;omega)⟩,sb⟩
 refine Jz 11 ?_
 refine Cg ⟨⟨mi,j+1,rfl,rfl,rfl,om,om⟩,sb⟩
 refine Jz 8 ?_
 refine Jr (FO (i:=6) (m:=mj) rfl underlying285 rfl rfl) ?_
 refine Jr (Cr (v':= .bool false) (congrArg Value.bool (aEo om)) (Rd.gtr rfl rfl rfl)) ?_
 refine Jz 11 ?_
 refine Cg ⟨⟨k+1,rfl,rfl,rfl,om⟩,sb⟩
 refine Jz 8 ?_
 refine Jqf (SG F hF) (by show owns (F.kids eX)++(owns gl++[])=[];rw[(Fl.lax eX F).owns];rfl) (ocs (oca 2 rfl) (ocs (oca 3 rfl) (ocn _))) ?_
 rintro _ _ ⟨rfl,rfl⟩
 refine⟨rfl,?_⟩
 refine Jz 4 ?_
 refine Dl (Cu (Df (Du (Je1 results83 ?_))))
 exact⟨rfl,rfl⟩
theorem nA(F:Fl)(hF:Ol F):
    Dz 52 [.agg (cF F []).toArray] [all (F.kids eX),glc] (fun v Γ'=>v=iv 0∧Γ'=[]):=by
 refine Am func52 ntmps52 fun w0=>?_
 refine Js (To.g (Jbo fun b1=>?_))
 refine Jz 8 ?_
 refine Jqf (FQ F hF) (by show owns (F.kids eX)++(owns gl++[])=[];rw[(Fl.lax eX F).owns];rfl) (ocs (oca 1 rfl) (ocs (oca 2 rfl) (ocn _))) ?_
 rintro _ _ ⟨rfl,rfl⟩
 refine⟨rfl,?_⟩
 refine Jz 8 ?_
 refine Jqf (FP F hF) (by show owns (F.kids eX)++(owns gl++[])=[];rw[(Fl.lax eX F).owns];rfl) (ocs (oca 1 rfl) (ocs (oca 2 rfl) (ocn _))) ?_
 rintro _ _ ⟨rfl,rfl⟩
 refine⟨rfl,?_⟩
 refine Jz 8 ?_
 refine Jqf (yC F hF) (by show owns (F.kids eX)++(owns gl++[])=[];rw[(Fl.lax eX F).owns];rfl) (ocs (oca 1 rfl) (ocs (oca 2 rfl) (ocn _))) ?_
 rintro _ _ ⟨rfl,rfl⟩
 refine⟨rfl,?_⟩
 refine Jz 14 ?_
 refine Cu (Df (Du (Je1 results52 ?_)))
 exact⟨rfl,rfl⟩
end Go.Proofs.YtlihklladkagpaaGreatDoor

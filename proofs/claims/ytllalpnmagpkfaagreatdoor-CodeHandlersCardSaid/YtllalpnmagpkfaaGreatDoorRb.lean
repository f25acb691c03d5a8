/- Own text. -/
import Derived.Test.YtllalpnmagpkfaaGreatDoorRa
set_option linter.unusedVariables false
set_option linter.unusedSimpArgs false
set_option maxHeartbeats 2000000
set_option maxRecDepth 100000
namespace Go.Proofs.YtllalpnmagpkfaaGreatDoor
open Go.Proofs.Tryz
open Go.RowKit Go.Flow Go.Mem Go.Sep Go.In
theorem Ex.sub_kids{f:Ex→List Value}{e x:Ex}{j:Nat}(h:e.args[j]?=some x):∀c∈x.kids f,c∈e.kids f:=fun c hc=>by
 rw[Ex.kids_eq,Ex.kidsL_map]
 exact List.mem_cons_of_mem _ (List.mem_flatMap.2 ⟨x,mog h,hc⟩)
theorem Ex.own_kids{f:Ex→List Value}(e:Ex):ros f e.A e.args∈e.kids f:=by rw[Ex.kids_eq];exact List.mem_cons_self ..
theorem Ex.ls_kids{A:OA}{l:List Ex}{x:Ex}{j:Nat}(h:l[j]?=some x):∀c∈x.kids encE,c∈lsE A l:=fun c hc=>by
 show c∈_::Ex.kidsL encE l
 rw[Ex.kidsL_map]
 exact List.mem_cons_of_mem _ (List.mem_flatMap.2 ⟨x,mog h,hc⟩)
theorem cEs_one(cc:Cc)(x:PE):cEs cc [x]=cE cc x:=List.append_nil _
theorem cEs_step(cc:Cc){l:List Ex}{j:Nat}{x:Ex}(h:l[j]?=some x):cEs cc (Ex.pL (l.take (j+1)))=cEs cc (Ex.pL (l.take j))++cE cc x.pure:=by
 rw[take_of_get h,Ex.pureL_map,List.map_append,cEs_app,←Ex.pureL_map];congr 1;exact cEs_one cc x.pure
theorem cEs_le(cc:Cc){l:List Ex}{j:Nat}{x:Ex}(h:l[j]?=some x):(cEs cc (Ex.pL (l.take j))).length+(cE cc x.pure).length≤(cEs cc (Ex.pL l)).length:=by
 have e1:l=l.take (j+1)++l.drop (j+1):=(List.take_append_drop ..).symm
 have e2:cEs cc (Ex.pL l)=cEs cc (Ex.pL (l.take (j+1)))++cEs cc (Ex.pL (l.drop (j+1))):=by
  conv=>lhs;rw[e1,Ex.pureL_map,List.map_append,cEs_app]
  rw[Ex.pureL_map,Ex.pureL_map]
 rw[e2,cEs_step cc h,lap,lap];omega
theorem expr_step(F:Fl)(hB:BndF F)(ci:Nat)(c:Cm)(hc:F.comps[ci]?=some c)(Ap:OA)(qp:Nat)(ps:List ByteArray)(hps:ps.length≤100)(mb:Nat)(e:Ex)(hal:e.args.length≤1000000)(ih:∀x∈e.args,∀(A:OA) (q:Nat) (l:List Ins),(l++cE (ccR F.pure c.name c.vars ps) x.pure).length≤1000000→Dz 203 [pv mb, .agg (encE x).toArray] [box mb (cF F [nv ci,vs Ap ps qp,vs A l q]) 154,rows Ins.rc 54 4 A q l,all (Fl.kids eR F),ros encZ Ap ps,all (Ex.kids encE x)] (fun v Γ'=>∃(A':OA) (q':Nat),Γ'=[box mb (cF F [nv ci,vs Ap ps qp,vs A' (l++cE (ccR F.pure c.name c.vars ps) x.pure) q']) 154,rows Ins.rc 54 4 A' q' (l++cE (ccR F.pure c.name c.vars ps) x.pure),all (Fl.kids eR F),ros encZ Ap ps]))(A:OA)(q:Nat)(l:List Ins)(hl:(l++cE (ccR F.pure c.name c.vars ps) e.pure).length≤1000000):
    Dz 203 [pv mb, .agg (encE e).toArray] [box mb (cF F [nv ci,vs Ap ps qp,vs A l q]) 154,rows Ins.rc 54 4 A q l,all (Fl.kids eR F),ros encZ Ap ps,all (Ex.kids encE e)] (fun v Γ'=>∃(A':OA) (q':Nat),Γ'=[box mb (cF F [nv ci,vs Ap ps qp,vs A' (l++cE (ccR F.pure c.name c.vars ps) e.pure) q']) 154,rows Ins.rc 54 4 A' q' (l++cE (ccR F.pure c.name c.vars ps) e.pure),all (Fl.kids eR F),ros encZ Ap ps]):=by
 have hEl:(cE (ccR F.pure c.name c.vars ps) e.pure).length=(cEs (ccR F.pure c.name c.vars ps) (Ex.pL e.args)).length+1:=by rw[Ex.pure_eq,cE,lap];rfl
 rw[lap]at hl
 refine Does.en func203 ntmps203 fun w0=>?_
 refine Js (To.g (Jbo fun b3=>?_))
 refine Jz 4 ?_
 refine To.one 5 rfl (ros encE e.A e.args) rfl (Ex.own_kids e) (Jz 8 ?_)
 refine To.loP (fun s g mz ρ Γ=>∃(Aj:OA) (qj:Nat) (lj:List Ins) (j:Nat),ρ=[s 0,s 3,s 7,s 8,(9,nv j)]∧Γ=[box mb (cF F [nv ci,vs Ap ps qp,vs Aj lj qj]) 154,rows Ins.rc 54 4 Aj qj lj,g 4,g 5,g 1,g 0,g 6]∧mz=e.args.length-j∧(j≤e.args.length)∧(lj=l++cEs (ccR F.pure c.name c.vars ps) (Ex.pL (e.args.take j)))) ⟨⟨A,q,l,0,rfl,rfl,rfl,om,((List.append_nil _).symm)⟩,sb⟩ ?_
 rintro mz _ _ ⟨Aj,qj,lj,j,rfl,rfl,rfl,hj,hlj⟩
 have hljl:lj.length=l.length+(cEs (ccR F.pure c.name c.vars ps) (Ex.pL (e.args.take j))).length:=by rw[hlj,lap]
 refine Jz 6 ?_
 refine Jcp rfl ?_ ?_<;>intro k10
 obtain⟨x,hx⟩:=exg e.args j om
 have hle:=cEs_le (ccR F.pure c.name c.vars ps) hx
 refine Jz 8 ?_
 refine Jal fun b5=>?_
 refine Jz 3 ?_
 refine Jpart 7 rfl (x.kids encE) (Ex.lax encE x) (Ex.sub_kids hx) (Jz 3 ?_)
 refine Jcf [2,2,2,2,0] (ih x (mog hx) Aj qj lj (by rw[lap];omega)) ?_
 rintro _ _ ⟨An,qn,rfl⟩
 refine Jz 8 ?_
 refine To.agP ⟨⟨An,qn,(lj++cE (ccR F.pure c.name c.vars ps) x.pure),j+1,rfl,rfl,rfl,om,(by rw[hlj,cEs_step _ hx,List.append_assoc])⟩,sb⟩
 have hlj2:lj=l++cEs (ccR F.pure c.name c.vars ps) (Ex.pL e.args):=by rw[hlj,List.take_of_length_le om]
 have hljl2:lj.length=l.length+(cEs (ccR F.pure c.name c.vars ps) (Ex.pL e.args)).length:=by rw[hlj2,lap]
 refine Jz 18 ?_
 refine Jcp rfl ?_ ?_<;>intro k23
 refine Jz 4 ?_
 refine Jcf [0,0] (put_fn F hB ci c hc Ap qp ps hps mb Aj qj lj 1 0 0 e.n   (by simp only[lap,lc1,ln0];omega)) ?_
 rintro _ _ ⟨An_2,qn_2,rfl⟩
 refine Jn (Jbn (Jdel6 (Jdel5 (Jdel4 (Jend0 (.inr rfl) results203 ?_)))))
 have hop:opI (ccR F.pure c.name c.vars ps) e.op e.name e.n=(⟨1,0,0,e.n⟩:Ins):=by unfold opI;rw[if_pos om]
 have hE:lj++[(⟨1,0,0,e.n⟩:Ins)]=l++cE (ccR F.pure c.name c.vars ps) e.pure:=by rw[Ex.pure_eq,←hop,hlj2,List.append_assoc];rfl
 rw[hE];exact⟨_,_,rfl⟩
 refine Jz 6 ?_
 refine Jcp rfl ?_ ?_<;>intro k29
 refine Jz 2 ?_
 refine Jcf [0,0] (put_fn F hB ci c hc Ap qp ps hps mb Aj qj lj 1 0 0 1   (by simp only[lap,lc1,ln0];omega)) ?_
 rintro _ _ ⟨An_3,qn_3,rfl⟩
 refine Jn (Jbn (Jdel6 (Jdel5 (Jdel4 (Jend0 (.inr rfl) results203 ?_)))))
 have hop:opI (ccR F.pure c.name c.vars ps) e.op e.name e.n=(⟨1,0,0,1⟩:Ins):=by unfold opI;rw[if_neg om,if_pos om]
 have hE:lj++[(⟨1,0,0,1⟩:Ins)]=l++cE (ccR F.pure c.name c.vars ps) e.pure:=by rw[Ex.pure_eq,←hop,hlj2,List.append_assoc];rfl
 rw[hE];exact⟨_,_,rfl⟩
 refine Jz 6 ?_
 refine Jcp rfl ?_ ?_<;>intro k33
 refine Jz 2 ?_
 refine Jcf [0,0] (put_fn F hB ci c hc Ap qp ps hps mb Aj qj lj 1 0 0 0   (by simp only[lap,lc1,ln0];omega)) ?_
 rintro _ _ ⟨An_4,qn_4,rfl⟩
 refine Jn (Jbn (Jdel6 (Jdel5 (Jdel4 (Jend0 (.inr rfl) results203 ?_)))))
 have hop:opI (ccR F.pure c.name c.vars ps) e.op e.name e.n=(⟨1,0,0,0⟩:Ins):=by unfold opI;rw[if_neg om,if_neg om,if_pos om]
 have hE:lj++[(⟨1,0,0,0⟩:Ins)]=l++cE (ccR F.pure c.name c.vars ps) e.pure:=by rw[Ex.pure_eq,←hop,hlj2,List.append_assoc];rfl
 rw[hE];exact⟨_,_,rfl⟩
 refine Jz 6 ?_
 refine Jcp rfl ?_ ?_<;>intro k37
 refine Jz 2 ?_
 refine Jcf [0,0] (put_fn F hB ci c hc Ap qp ps hps mb Aj qj lj 5 0 0 0   (by simp only[lap,lc1,ln0];omega)) ?_
 rintro _ _ ⟨An_5,qn_5,rfl⟩
 refine Jn (Jbn (Jdel6 (Jdel5 (Jdel4 (Jend0 (.inr rfl) results203 ?_)))))
 have hop:opI (ccR F.pure c.name c.vars ps) e.op e.name e.n=(⟨5,0,0,0⟩:Ins):=by unfold opI;rw[if_neg om,if_neg om,if_neg om,if_pos om]
 have hE:lj++[(⟨5,0,0,0⟩:Ins)]=l++cE (ccR F.pure c.name c.vars ps) e.pure:=by rw[Ex.pure_eq,←hop,hlj2,List.append_assoc];rfl
 rw[hE];exact⟨_,_,rfl⟩
 refine Jz 6 ?_
 refine Jcp rfl ?_ ?_<;>intro k41
 refine Jz 4 ?_
 refine Jcf [0,0,0,0] (name_fn F hB ci c hc Ap qp ps hps mb Aj qj lj e.name (by rw[lap];show _+1≤_;omega)) ?_
 rintro _ _ ⟨An_6,qn_6,rfl⟩
 refine Jn (Jbn (Jdel6 (Jdel5 (Jdel4 (Jend0 (.inr rfl) results203 ?_)))))
 have hop:opI (ccR F.pure c.name c.vars ps) e.op e.name e.n=(ccR F.pure c.name c.vars ps).pn e.name:=by unfold opI;rw[if_neg om,if_neg om,if_neg om,if_neg om,if_pos om]
 have hE:lj++[(ccR F.pure c.name c.vars ps).pn e.name]=l++cE (ccR F.pure c.name c.vars ps) e.pure:=by rw[Ex.pure_eq,←hop,hlj2,List.append_assoc];rfl
 rw[hE];exact⟨_,_,rfl⟩
 refine Jz 7 ?_
 refine Jcp rfl ?_ ?_<;>intro k47
 refine Jsp (Jt (JcondT (congrArg (fun b=>some (Value.bool b)) (decide_eq_true k47)) (Jfw [box b3 (encE e) 125] [0,1,2,3,4,5,506,507] (ocs (oca 4 rfl) (ocn _)) ?_)))
 refine Jz 6 ?_
 refine Fw.cf [0,1] (slot_fn F hB ci c hc Ap qp ps hps mb Aj qj lj e.name true) ?_
 rintro _ _ ⟨rfl,rfl⟩
 refine⟨ocs (oca 4 rfl) (ocn _),?_⟩
 refine Fw.cf [0,1] (put_fn F hB ci c hc Ap qp ps hps mb Aj qj lj e.op (slI c.vars e.name true) 0 0   (by simp only[lap,lc1,ln0];omega)) ?_
 rintro _ _ ⟨An_7,qn_7,rfl⟩
 refine⟨ocs (oca 4 rfl) (ocn _),?_⟩
 refine Jz 2 ?_
 refine Jdel6 (Jdel5 (Jdel4 (Jend0 (.inr rfl) results203 ?_)))
 have hop:opI (ccR F.pure c.name c.vars ps) e.op e.name e.n=(⟨e.op,slI c.vars e.name true,0,0⟩:Ins):=by unfold opI;rw[if_neg om,if_neg om,if_neg om,if_neg om,if_neg om,if_pos om];rfl
 have hE:lj++[(⟨e.op,slI c.vars e.name true,0,0⟩:Ins)]=l++cE (ccR F.pure c.name c.vars ps) e.pure:=by rw[Ex.pure_eq,←hop,hlj2,List.append_assoc];rfl
 rw[hE];exact⟨_,_,rfl⟩
 refine Jz 6 ?_
 refine Jcp rfl ?_ ?_<;>intro k47_2
 refine Jsp (Jt (JcondT (congrArg (fun b=>some (Value.bool b)) (decide_eq_true k47_2)) (Jfw [box b3 (encE e) 125] [0,1,2,3,4,5,506,507] (ocs (oca 4 rfl) (ocn _)) ?_)))
 refine Jz 6 ?_
 refine Fw.cf [0,1] (slot_fn F hB ci c hc Ap qp ps hps mb Aj qj lj e.name true) ?_
 rintro _ _ ⟨rfl,rfl⟩
 refine⟨ocs (oca 4 rfl) (ocn _),?_⟩
 refine Fw.cf [0,1] (put_fn F hB ci c hc Ap qp ps hps mb Aj qj lj e.op (slI c.vars e.name true) 0 0   (by simp only[lap,lc1,ln0];omega)) ?_
 rintro _ _ ⟨An_8,qn_8,rfl⟩
 refine⟨ocs (oca 4 rfl) (ocn _),?_⟩
 refine Jz 2 ?_
 refine Jdel6 (Jdel5 (Jdel4 (Jend0 (.inr rfl) results203 ?_)))
 have hop:opI (ccR F.pure c.name c.vars ps) e.op e.name e.n=(⟨e.op,slI c.vars e.name true,0,0⟩:Ins):=by unfold opI;rw[if_neg om,if_neg om,if_neg om,if_neg om,if_neg om,if_pos om];rfl
 have hE:lj++[(⟨e.op,slI c.vars e.name true,0,0⟩:Ins)]=l++cE (ccR F.pure c.name c.vars ps) e.pure:=by rw[Ex.pure_eq,←hop,hlj2,List.append_assoc];rfl
 rw[hE];exact⟨_,_,rfl⟩
 refine Jz 5 ?_
 refine Jcp rfl ?_ ?_<;>intro k47_3
 refine Jfw [box b3 (encE e) 125] [0,1,2,3,4,5,506,507] (ocs (oca 4 rfl) (ocn _)) ?_
 refine Jz 6 ?_
 refine Fw.cf [0,1] (slot_fn F hB ci c hc Ap qp ps hps mb Aj qj lj e.name true) ?_
 rintro _ _ ⟨rfl,rfl⟩
 refine⟨ocs (oca 4 rfl) (ocn _),?_⟩
 refine Fw.cf [0,1] (put_fn F hB ci c hc Ap qp ps hps mb Aj qj lj e.op (slI c.vars e.name true) 0 0   (by simp only[lap,lc1,ln0];omega)) ?_
 rintro _ _ ⟨An_9,qn_9,rfl⟩
 refine⟨ocs (oca 4 rfl) (ocn _),?_⟩
 refine Jz 2 ?_
 refine Jdel6 (Jdel5 (Jdel4 (Jend0 (.inr rfl) results203 ?_)))
 have hop:opI (ccR F.pure c.name c.vars ps) e.op e.name e.n=(⟨e.op,slI c.vars e.name true,0,0⟩:Ins):=by unfold opI;rw[if_neg om,if_neg om,if_neg om,if_neg om,if_neg om,if_pos om];rfl
 have hE:lj++[(⟨e.op,slI c.vars e.name true,0,0⟩:Ins)]=l++cE (ccR F.pure c.name c.vars ps) e.pure:=by rw[Ex.pure_eq,←hop,hlj2,List.append_assoc];rfl
 rw[hE];exact⟨_,_,rfl⟩
 refine Jz 4 ?_
 refine Jcf [0,0] (put_fn F hB ci c hc Ap qp ps hps mb Aj qj lj e.op 0 0 0   (by simp only[lap,lc1,ln0];omega)) ?_
 rintro _ _ ⟨An_10,qn_10,rfl⟩
 refine Jn (Jbn (Jdel6 (Jdel5 (Jdel4 (Jend0 (.inr rfl) results203 ?_)))))
 have hop:opI (ccR F.pure c.name c.vars ps) e.op e.name e.n=(⟨e.op,0,0,0⟩:Ins):=by unfold opI;rw[if_neg om,if_neg om,if_neg om,if_neg om,if_neg om,if_neg om]
 have hE:lj++[(⟨e.op,0,0,0⟩:Ins)]=l++cE (ccR F.pure c.name c.vars ps) e.pure:=by rw[Ex.pure_eq,←hop,hlj2,List.append_assoc];rfl
 rw[hE];exact⟨_,_,rfl⟩
theorem ex_args_le(cc:Cc):∀l:List Ex,l.length≤(cEs cc (Ex.pL l)).length
 |[]=>Nat.zero_le _
 | x::r=>by
   have:=ex_args_le cc r
   show r.length+1≤(cE cc x.pure++cEs cc (Ex.pL r)).length
   rw[lap]
   have h1:1≤(cE cc x.pure).length:=by rw[Ex.pure_eq,cE,lap];exact Nat.le_add_left _ _
   omega
theorem expr_fn(F:Fl)(hB:BndF F)(ci:Nat)(c:Cm)(hc:F.comps[ci]?=some c)(Ap:OA)(qp:Nat)(ps:List ByteArray)(hps:ps.length≤100)(mb:Nat):∀e:Ex,∀(A:OA) (q:Nat) (l:List Ins),(l++cE (ccR F.pure c.name c.vars ps) e.pure).length≤1000000→Dz 203 [pv mb, .agg (encE e).toArray] [box mb (cF F [nv ci,vs Ap ps qp,vs A l q]) 154,rows Ins.rc 54 4 A q l,all (Fl.kids eR F),ros encZ Ap ps,all (Ex.kids encE e)] (fun v Γ'=>∃(A':OA) (q':Nat),Γ'=[box mb (cF F [nv ci,vs Ap ps qp,vs A' (l++cE (ccR F.pure c.name c.vars ps) e.pure) q']) 154,rows Ins.rc 54 4 A' q' (l++cE (ccR F.pure c.name c.vars ps) e.pure),all (Fl.kids eR F),ros encZ Ap ps])
 |e,A,q,l,hl=>expr_step F hB ci c hc Ap qp ps hps mb e (by
     have h1:=ex_args_le (ccR F.pure c.name c.vars ps) e.args
     rw[lap,Ex.pure_eq,cE,lap]at hl
     have h2:(Ex.pL e.args)=Ex.pL e.args:=rfl
     omega) (fun x hx=>expr_fn F hB ci c hc Ap qp ps hps mb x) A q l hl
termination_by e=>SizeOf.sizeOf e
decreasing_by
 cases e with
 | mk op s n A q l=>
   have:=List.sizeOf_lt_of_mem (show x∈l from hx)
   simp only[Ex.mk.sizeOf_spec]
   omega
theorem exprs_fn(F:Fl)(hB:BndF F)(ci:Nat)(c:Cm)(hc:F.comps[ci]?=some c)(Ap:OA)(qp:Nat)(ps:List ByteArray)(hps:ps.length≤100)(mb:Nat)(Ae:OA)(qe:Nat)(es:List Ex)(A:OA)(q:Nat)(l:List Ins)(hl:(l++cEs (ccR F.pure c.name c.vars ps) (Ex.pL es)).length≤1000000):
    Dz 166 [pv mb,vs Ae es qe] [box mb (cF F [nv ci,vs Ap ps qp,vs A l q]) 154,rows Ins.rc 54 4 A q l,all (Fl.kids eR F),ros encZ Ap ps,all (lsE Ae es)] (fun v Γ'=>∃(A':OA) (q':Nat),Γ'=[box mb (cF F [nv ci,vs Ap ps qp,vs A' (l++cEs (ccR F.pure c.name c.vars ps) (Ex.pL es)) q']) 154,rows Ins.rc 54 4 A' q' (l++cEs (ccR F.pure c.name c.vars ps) (Ex.pL es)),all (Fl.kids eR F),ros encZ Ap ps]):=by
 rw[lap]at hl
 have hal:=ex_args_le (ccR F.pure c.name c.vars ps) es
 refine Does.en func166 ntmps166 fun w0=>?_
 refine Js (To.one 4 rfl (ros encE Ae es) rfl (List.mem_cons_self ..) (Jz 7 ?_))
 refine To.loP (fun s g mz ρ Γ=>∃(Aj:OA) (qj:Nat) (lj:List Ins) (j:Nat),ρ=[s 0,s 6,s 7,(8,nv j)]∧Γ=[box mb (cF F [nv ci,vs Ap ps qp,vs Aj lj qj]) 154,rows Ins.rc 54 4 Aj qj lj,g 3,g 4,g 0,g 5]∧mz=es.length-j∧(j≤es.length)∧(lj=l++cEs (ccR F.pure c.name c.vars ps) (Ex.pL (es.take j)))) ⟨⟨A,q,l,0,rfl,rfl,rfl,om,((List.append_nil _).symm)⟩,sb⟩ ?_
 rintro mz _ _ ⟨Aj,qj,lj,j,rfl,rfl,rfl,hj,hlj⟩
 have hljl:lj.length=l.length+(cEs (ccR F.pure c.name c.vars ps) (Ex.pL (es.take j))).length:=by rw[hlj,lap]
 refine Jz 6 ?_
 refine Jcp rfl ?_ ?_<;>intro c9
 obtain⟨x,hx⟩:=exg es j om
 have hle:=cEs_le (ccR F.pure c.name c.vars ps) hx
 refine Jz 8 ?_
 refine Jal fun b5=>?_
 refine Jz 3 ?_
 refine Jpart 6 rfl (x.kids encE) (Ex.lax encE x) (Ex.ls_kids hx) (Jz 3 ?_)
 refine Jcf [2,2,2,2,0] (expr_fn F hB ci c hc Ap qp ps hps mb x Aj qj lj (by rw[lap];omega)) ?_
 rintro _ _ ⟨An,qn,rfl⟩
 refine Jz 8 ?_
 refine To.agP ⟨⟨An,qn,(lj++cE (ccR F.pure c.name c.vars ps) x.pure),j+1,rfl,rfl,rfl,om,(by rw[hlj,cEs_step _ hx,List.append_assoc])⟩,sb⟩
 refine Jz 4 ?_
 refine Jdel5 (Jdel4 (Jend0 (.inr rfl) results166 ?_))
 have hE:lj=l++cEs (ccR F.pure c.name c.vars ps) (Ex.pL es):=by rw[hlj,List.take_of_length_le om]
 rw[hE];exact⟨_,_,rfl⟩
theorem tgF_cons(cn hn:ByteArray)(i:Nat)(c:PC)(r:List PC):tgF cn hn i (c::r)=if c.name=cn then(match ixF hn 0 (hnames c.vers)with|some h=>((i:Int),(h:Int))|none=>tgF cn hn (i+1) r)else tgF cn hn (i+1) r:=rfl
theorem hnAdd_len:∀(l:List PH) (o:List ByteArray),(hnAdd o l).length≤o.length+l.length
 |[],o=>Nat.le_refl _
 | h::r,o=>by
   rw[hnAdd_cons]
   have:=hnAdd_len r (if h.name∈o then o else o++[h.name])
   have h2:(if h.name∈o then o else o++[h.name]).length≤o.length+1:=by
    split
    ·omega
    ·rw[lap];exact Nat.le_refl _
   show _≤o.length+(r.length+1)
   omega
theorem hnames_len:∀(v:List Vs) (o:List ByteArray),(∀x∈v,x.l.length≤100)→((v.map Vs.pure).foldl hnAdd o).length≤o.length+100*v.length
 |[],o,_=>Nat.le_refl _
 | x::r,o,h=>by
   have h1:=hnames_len r (hnAdd o x.pure) fun y hy=>h y (List.mem_cons_of_mem _ hy)
   have h2:=hnAdd_len x.pure o
   have h3:=h x (List.mem_cons_self ..)
   have h4:x.pure.length=x.l.length:=List.length_map ..
   show((r.map Vs.pure).foldl hnAdd (hnAdd o x.pure)).length≤_
   rw[lc1];omega
theorem hnames_le(c:Cm)(h1:c.vers.length≤1000)(h2:∀v∈c.vers,v.l.length≤100):(hnames (c.vers.map Vs.pure)).length≤100000:=by
 have:=hnames_len c.vers [] h2
 unfold hnames;simp only[ln0]at this;omega
theorem target_fn(F:Fl)(hB:BndF F)(ci:Nat)(c:Cm)(hc:F.comps[ci]?=some c)(Ap:OA)(qp:Nat)(ps:List ByteArray)(hps:ps.length≤100)(mb:Nat)(A:OA)(q:Nat)(l:List Ins)(cn hn:ByteArray):
    Dz 168 [pv mb, .string cn, .string hn] [box mb (cF F [nv ci,vs Ap ps qp,vs A l q]) 154,all (Fl.kids eR F)] (fun v Γ'=>v= .tuple #[.int .i64 (tgF cn hn 0 F.pure.comps).1, .int .i64 (tgF cn hn 0 F.pure.comps).2]∧Γ'=[box mb (cF F [nv ci,vs Ap ps qp,vs A l q]) 154,all (Fl.kids eR F)]):=by
 have hcm:=hB.comps
 refine Does.en func168 ntmps168 fun w0=>?_
 refine Jz 8 ?_
 refine To.one 1 rfl (ros encC F.Ac F.comps) rfl (fl_comps F) (Jz 11 ?_)
 refine To.loP (fun s g mz ρ Γ=>∃(j:Nat),ρ=[s 0,s 1,s 2,s 16,s 17,(18,nv j)]∧Γ=[g 1,g 2,g 0]∧mz=F.comps.length-j∧(j≤F.comps.length)∧(tgF cn hn 0 F.pure.comps=tgF cn hn j ((F.comps.drop j).map Cm.pure))) ⟨⟨0,rfl,rfl,rfl,om,rfl⟩,sb⟩ ?_
 rintro mz _ _ ⟨j,rfl,rfl,rfl,hj,hT⟩
 refine Jz 6 ?_
 refine Jcp rfl ?_ ?_<;>intro c19
 obtain⟨x,hx⟩:=exg F.comps j om
 refine Jz 9 ?_
 refine Jal fun b9=>?_
 refine Jz 10 ?_
 refine Jr (Rd.neqZ rfl rfl rfl) ?_
 refine Jn (Jt (Jcp rfl (fun c26=>?_) (fun c26=>?_)))
 refine Jz 9 ?_
 refine To.agP ⟨⟨j+1,rfl,rfl,rfl,om,(by rw[hT,mdg Cm.pure hx,tgF_cons,if_neg (show¬(Cm.pure x).name=cn from c26)])⟩,sb⟩
 refine Jz 3 ?_
 refine Jpart 2 rfl (x.kids eR) (x.lax eR) (fun z hz=>fl_cm hx hz) (Jz 2 ?_)
 refine Jcf [0] (handlersN_fn x (hB.each x (mog hx)).2.1 (hB.each x (mog hx)).2.2) ?_
 rintro _ _ ⟨Ah,qh,rfl,rfl⟩
 refine Jz 5 ?_
 refine To.loP (fun s g mz ρ Γ=>∃(k:Nat),ρ=[s 0,s 1,s 2,s 8,s 16,s 17,s 18,s 28,s 29,(30,nv k)]∧Γ=[g 2,g 3,g 4,g 0]∧mz=(hnames (x.vers.map Vs.pure)).length-k∧(k≤(hnames (x.vers.map Vs.pure)).length)∧(ixF hn 0 (hnames (x.vers.map Vs.pure))=ixF hn k ((hnames (x.vers.map Vs.pure)).drop k))) ⟨⟨0,rfl,rfl,rfl,om,rfl⟩,sb⟩ ?_
 rintro mz _ _ ⟨k,rfl,rfl,rfl,hk,hN⟩
 have hkb:=hnames_le x ((hB.each x (mog hx)).2.1) ((hB.each x (mog hx)).2.2)
 refine Jz 6 ?_
 refine Jcp rfl ?_ ?_<;>intro c31
 obtain⟨y,hy⟩:∃z0,(hnames (x.vers.map Vs.pure))[k]?=some z0:=⟨(hnames (x.vers.map Vs.pure))[k]'om,gge _⟩
 refine Jz 17 ?_
 refine Jr (Rd.eqlZ rfl rfl rfl) ?_
 refine Jn (Jt (Jcp rfl (fun c37=>?_) (fun c37=>?_)))
 refine Jz 18 ?_
 refine Jdel3 (Jdel2 (Jend2 (.inl rfl) results168 rfl rfl ?_))
 have hr:tgF cn hn 0 F.pure.comps=(((j:Nat):Int),((k:Nat):Int)):=by
  have hn0:ixF hn 0 (hnames (x.vers.map Vs.pure))=some k:=by rw[hN,dog hy,ixF_cons,if_pos c37]
  rw[hT,mdg Cm.pure hx,tgF_cons,if_pos (show(Cm.pure x).name=cn from Decidable.not_not.1 c26)]
  show(match ixF hn 0 (hnames (x.vers.map Vs.pure))with|some h=>_|none=>_)=_
  rw[hn0]
 rw[hr];exact⟨rfl,rfl⟩
 refine Jz 8 ?_
 refine To.agT ⟨⟨k+1,rfl,rfl,rfl,om,(by rw[hN,dog hy,ixF_cons,if_neg c37])⟩,sb⟩
 refine Jz 11 ?_
 refine Jsub [(0,pv mb),(1, .string cn),(2, .string hn),(16,vs F.Ac F.comps F.qc),(17,nv F.comps.length),(18,nv ((j+1)))] sb (Jdel3 ?_)
 refine Jag (F.comps.length-(j+1)) om ⟨j+1,rfl,rfl,rfl,om,(by
  have hn0:ixF hn 0 (hnames (x.vers.map Vs.pure))=none:=by rw[hN,List.drop_eq_nil_of_le om];rfl
  rw[hT,mdg Cm.pure hx,tgF_cons,if_pos (show(Cm.pure x).name=cn from Decidable.not_not.1 c26)]
  show(match ixF hn 0 (hnames (x.vers.map Vs.pure))with|some h=>_|none=>_)=_
  rw[hn0])⟩
 refine Jz 12 ?_
 refine Jdel2 (Jend2 (.inl rfl) results168 rfl rfl ?_)
 have hr:tgF cn hn 0 F.pure.comps=(-1,-1):=by rw[hT,List.drop_eq_nil_of_le om];rfl
 rw[hr];exact⟨rfl,rfl⟩
end Go.Proofs.YtllalpnmagpkfaaGreatDoor

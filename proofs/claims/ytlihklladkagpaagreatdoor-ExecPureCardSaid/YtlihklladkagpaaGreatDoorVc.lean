/- Own text. -/
import Derived.Test.YtlihklladkagpaaGreatDoorVb
set_option maxHeartbeats 8000000
set_option maxRecDepth 100000
set_option linter.unusedVariables false
set_option linter.unusedSimpArgs false
namespace Go.Proofs.YtlihklladkagpaaGreatDoor
open Go.Proofs.Tryz
open Go.RowKit Go.Flow Go.Mem Go.Sep Go.In
structure StT(F:Fl)(x:Cm)(σ:Scp)(k:Nat)(s h:ByteArray)(es:List PE):Prop where
 k1:k=1→∃t,(t=1∨t=2)∧σ.Ch s t∧PE.TyL σ es t
 k2:k=2∨k=3→σ.Ch s 3
 k9:k=9→σ.Ch s 1
 ke:k=2∨k=3∨k=6∨k=7∨k=8∨k=9→PE.TyL σ es 1
 kb:k=4∨k=5→PE.TyL σ es 2
 k6:k=6→∃c h',fdC F.comps s=some c∧fdH c.vers h=some h'∧es.length=h'.ps.length
 k7:k=7→∃h',fdH x.vers h=some h'∧es.length=h'.ps.length+1
mutual
def PS.Ty(F:Fl)(x:Cm)(σ:Scp):PS→Prop
 |⟨k,s,h,es,t,e⟩=>StT F x σ k s h es∧PS.TyL F x σ t∧PS.TyL F x σ e
def PS.TyL(F:Fl)(x:Cm)(σ:Scp):List PS→Prop
 |[]=>True
 |s::r=>PS.Ty F x σ s∧PS.TyL F x σ r
end
section
variable{F:Fl}{x:Cm}{σ:Scp}
theorem PS.TyL_mem:∀{l:List PS},PS.TyL F x σ l→∀s∈l,s.Ty F x σ
 |[],_,x,h=>by cases h
 | e::r,h,x,hx=>by
   rcases List.mem_cons.1 hx with rfl|hx
   ·exact h.1
   ·exact PS.TyL_mem h.2 x hx
theorem PS.TyL_of:∀{l:List PS},(∀s∈l,s.Ty F x σ)→PS.TyL F x σ l
 |[],_=>trivial
 |e::r,h=>⟨h e (List.mem_cons_self ..),PS.TyL_of fun x hx=>h x (List.mem_cons_of_mem _ hx)⟩
theorem St.ty_at{s:St}(h:s.pure.Ty F x σ):StT F x σ s.kind s.name s.hand (Ex.pL s.exprs)∧PS.TyL F x σ (St.pL s.thn)∧PS.TyL F x σ (St.pL s.els):=by
 rw[St.pq]at h
 exact h
theorem St.tyL_at{l:List St}(h:PS.TyL F x σ (St.pL l)){s:St}(hx:s∈l):s.pure.Ty F x σ:=PS.TyL_mem h s.pure (by rw[St.pm];exact List.mem_map.2 ⟨s,hx,rfl⟩)
end
theorem changed_fn(b bc:Nat)(F:Fl)(x:Cm)(σ:Scp)(hσ:σ.Low)(pl:ByteArray)(n:Nat)(s:ByteArray)(t:Nat)(h:σ.Ch s t):
    Dz 216 [pv b, .string s] [box b (jS bc σ (cX x [.string pl,nv n])) 341,ros encVx σ.Av σ.vars,ros encZ σ.Ap σ.ps] (fun v Γ'=>v= .int .u8 ((t:Nat):Int)∧Γ'=[box b (jS bc σ (cX x [.string pl,nv n])) 341,ros encVx σ.Av σ.vars,ros encZ σ.Ap σ.ps]):=by
 refine Does.en func216 ntmps216 fun w0=>?_
 refine Jz 10 ?_
 refine Jr (Rd.lS (i:=0) (us:=[vs σ.Af σ.flags σ.qf,vs σ.Av σ.vars σ.qv,vs σ.Ap σ.ps σ.qp]) rfl rfl r339 rfl (box_gives (n:=3) rfl) rfl) ?_
 refine Jm ?_
 refine Jqf (svar_fn σ hσ s _ h) rfl (ocs (oca 1 rfl) (ocs (oca 2 rfl) (ocn _))) ?_
 rintro _ _ ⟨w,rfl,rfl,hw⟩
 refine⟨rfl,?_⟩
 refine Jz 3 ?_
 refine Jal fun b5=>?_
 refine Jz 20 ?_
 refine Jdel0 (Je1 results216 ?_)
 rw[hw];exact⟨rfl,rfl⟩
theorem all_fn(b bc:Nat)(F:Fl)(x:Cm)(σ:Scp)(hσ:σ.Low)(pl:ByteArray)(n:Nat)(w:ByteArray)(t:Nat)(A:OA)(q:Nat)(l:List Ex)(hl:l.length≤12)(hlow:PE.lowL (Ex.pL l))(hty:PE.TyL σ (Ex.pL l) t):
    Dz 217 [pv b, .int .u8 ((t:Nat):Int),vs A l q] [box b (jS bc σ (cX x [.string pl,nv n])) 341,box bc (cF F [.string w, .string nE, .string nE, .int .i64 0]) 235,all (lsF encX A l),ros encFg σ.Af σ.flags,ros encVx σ.Av σ.vars,ros encZ σ.Ap σ.ps] (fun v Γ'=>v= .tuple #[]∧Γ'=[box b (jS bc σ (cX x [.string pl,nv n])) 341,box bc (cF F [.string w, .string nE, .string nE, .int .i64 0]) 235]):=by
 refine Does.en func217 ntmps217 fun w0=>?_
 refine Js (To.one 2 rfl (ros encX A l) rfl (List.mem_cons_self ..) (Jz 7 ?_))
 refine To.loP (fun s g mz ρ Γ=>∃(k:Nat),ρ=[s 0,s 1,s 11,s 12,(13,nv k)]∧Γ=[g 1,g 2,g 0,g 3,g 4,g 5,g 6]∧mz=l.length-k∧(k≤l.length)) ⟨⟨0,rfl,rfl,rfl,om⟩,sb⟩ ?_
 rintro mz _ _ ⟨k,rfl,rfl,rfl,hk⟩
 refine Jz 6 ?_
 refine Jcp rfl ?_ ?_<;>intro c14
 obtain⟨y,hy⟩:=exg l k om
 refine Jz 8 ?_
 refine Jal fun b7=>?_
 refine Jz 4 ?_
 refine Jpart 4 rfl (y.kids encX) (Ex.lax encX y) (ls_mem hy) (Jfw [] [0,1,2,103,104,405,6006,6007,6008,6009,6010,6011,6012] (ocn _) ?_)
 refine Jz 3 ?_
 refine Fw.r rfl (Rd.lS (i:=2) (us:=[vs σ.Af σ.flags σ.qf,vs σ.Av σ.vars σ.qv,vs σ.Ap σ.ps σ.qp]) rfl rfl r339 rfl (box_gives (n:=3) rfl) rfl) ?_
 refine Jz 1 ?_
 refine Fw.callM rfl rfl rfl rfl rfl .fc (typeOf_fn σ hσ y t (Ex.lowL_at hlow (mog hy)) (Ex.tyL_at hty (mog hy))) (by show owns (y.kids encX)++[]=[];rw[(Ex.lax encX y).owns];rfl) (ocs (oca 0 rfl) (ocs (oca 6 rfl) (ocs (oca 7 rfl) (ocs (oca 8 rfl) (ocn _))))) ?_
 rintro _ _ ⟨rfl,rfl⟩
 refine⟨rfl,?_⟩
 refine Jz 17 ?_
 refine Jcf [3] (report_fn bc F w nE) ?_
 rintro _ _ ⟨rfl,rfl⟩
 refine Jz 9 ?_
 refine Jr (Rd.as (v':= .bool true) (congrArg Value.bool (decide_eq_true (rfl))) (Rd.eql rfl rfl rfl)) ?_
 refine Jcf [0] (unless_fn bc F w nE 10) ?_
 rintro _ _ ⟨rfl,rfl⟩
 refine Jz 8 ?_
 refine To.agP ⟨⟨k+1,rfl,rfl,rfl,om⟩,sb⟩
 refine Jz 4 ?_
 refine Jdel6 (Jdel5 (Jdel4 (Jdel3 (Jdel2 (Jend0 (.inr rfl) results217 ?_)))))
 exact⟨rfl,rfl⟩
theorem call_fn(b bc:Nat)(F:Fl)(x:Cm)(σ:Scp)(hσ:σ.Low)(pl:ByteArray)(n:Nat)(w:ByteArray)(y:Cm)(hn:ByteArray)(h':Hd)(fi:Int)(A:OA)(q:Nat)(l:List Ex)(hl:l.length≤12)(hlow:PE.lowL (Ex.pL l))(hty:PE.TyL σ (Ex.pL l) 1)(hv:y.vers.length≤2∧∀v∈y.vers,v.l.length≤3)(hf:fdH y.vers hn=some h')(hfi:0≤fi∧fi≤1)(hle:(l.length:Int)-fi=h'.ps.length):
    Dz 218 [pv b, .agg (encC y).toArray, .string hn,vs A l q, .int .i64 fi] [box b (jS bc σ (cX x [.string pl,nv n])) 341,box bc (cF F [.string w, .string nE, .string nE, .int .i64 0]) 235,all (lsF encX A l),ros encFg σ.Af σ.flags,ros encVx σ.Av σ.vars,ros encZ σ.Ap σ.ps,ros encVs y.An y.vers,all (y.vers.flatMap (Vs.kids eX))] (fun v Γ'=>v= .tuple #[]∧Γ'=[box b (jS bc σ (cX x [.string pl,nv n])) 341,box bc (cF F [.string w, .string nE, .string nE, .int .i64 0]) 235]):=by
 refine Does.en func218 ntmps218 fun w0=>?_
 refine Js (To.g (Jbo fun b6=>?_))
 refine Jz 7 ?_
 refine Jqf (fhand_some y.An y.qn y.vers hn h' om hv.2 hf) (by show owns (y.vers.flatMap (Vs.kids eX))++[]=[];rw[(Lax.flat (k:=Vs.kids eX) (l:=y.vers) fun h _=>Vs.lax eX h).owns];rfl) (ocs (oca 7 rfl) (ocs (oca 8 rfl) (ocn _))) ?_
 rintro _ _ ⟨rfl,rfl⟩
 refine⟨rfl,?_⟩
 refine Jz 3 ?_
 refine Jal fun b10=>?_
 refine Jz 12 ?_
 refine Jcf [3] (unless_fn bc F w hn 9) ?_
 rintro _ _ ⟨rfl,rfl⟩
 refine Jz 3 ?_
 refine Jfw [] [0,1,2,4,5,6,7,8,12,103,109,10,11,513] (ocn _) ?_
 refine Jz 6 ?_
 refine Fw.f rfl (Rd.sub64 rfl rfl rfl om) ?_
 refine Jz 5 ?_
 refine Fw.f rfl (Rd.as (v':= .bool true) (congrArg Value.bool (decide_eq_true om)) (Rd.eql rfl rfl rfl)) ?_
 refine Fw.cf [0] (unless_fn bc F w hn 10) ?_
 rintro _ _ ⟨rfl,rfl⟩
 refine⟨ocn _,?_⟩
 refine Jz 5 ?_
 refine Jcf [3,0,2,2,2,2] (all_fn b bc F x σ hσ pl n w 1 A q l hl hlow hty) ?_
 rintro _ _ ⟨rfl,rfl⟩
 refine To.n (Jdel5 (Jdel4 (Jdel3 (Jdel2 (Jend0 (.inr rfl) results218 ?_)))))
 exact⟨rfl,rfl⟩
theorem stmt_fn(b bc:Nat)(F:Fl)(x:Cm)(σ:Scp)(hσ:σ.Low)(pl:ByteArray)(n:Nat)(w:ByteArray)(hF:GoodX F)(i:Nat)(hx:F.comps[i]?=some x)(s:St)(hle:s.exprs.length≤4)(hlow:PE.lowL (Ex.pL s.exprs))(hT:StT F x σ s.kind s.name s.hand (Ex.pL s.exprs)):
    Dz 201 [pv b, .agg (encT s).toArray] [box b (jS bc σ (cX x [.string pl,nv n])) 341,box bc (cF F [.string w, .string nE, .string nE, .int .i64 0]) 235,all (lsF encX s.A s.exprs),ros encFg σ.Af σ.flags,ros encVx σ.Av σ.vars,ros encZ σ.Ap σ.ps,all (F.kids eX)] (fun v Γ'=>v= .tuple #[]∧Γ'=[box b (jS bc σ (cX x [.string pl,nv n])) 341,box bc (cF F [.string w, .string nE, .string nE, .int .i64 0]) 235]):=by
 obtain⟨j1,j2,j9,je,jb,j6,j7⟩:=hT
 have hFc:=hF.comps
 refine Does.en func201 ntmps201 fun w0=>?_
 refine Js (To.g (Jbo fun b3=>?_))
 refine Jz 15 ?_
 refine Jcp rfl ?_ ?_<;>intro k9
 refine Js ?_
 obtain⟨t,ht,hch,hte⟩:=j1 om
 refine Jz 4 ?_
 refine Jcf [1,4,4] (changed_fn b bc F x σ hσ pl n s.name t hch) ?_
 rintro _ _ ⟨rfl,rfl⟩
 refine Jz 7 ?_
 refine JgP ?_ ?_<;>intro g17
 refine Jz 11 ?_
 refine Jcf [0,3,3,3,0,0] (all_fn b bc F x σ hσ pl n w t s.A s.q s.exprs om hlow hte) ?_
 rintro _ _ ⟨rfl,rfl⟩
 refine To.n (Jbn (Jdel3 (Jdel2 (Jend0 (.inr rfl) results201 ?_))))
 exact⟨rfl,rfl⟩
 refine Jm ?_
 refine Jr (Rd.as (v':= .bool true) (congrArg Value.bool (decide_eq_true om)) (Rd.eql rfl rfl rfl)) ?_
 refine Jz 9 ?_
 refine Jcf [0,3,3,3,0,0] (all_fn b bc F x σ hσ pl n w t s.A s.q s.exprs om hlow hte) ?_
 rintro _ _ ⟨rfl,rfl⟩
 refine To.n (Jbn (Jdel3 (Jdel2 (Jend0 (.inr rfl) results201 ?_))))
 exact⟨rfl,rfl⟩
 refine Jz 7 ?_
 refine Jcp rfl ?_ ?_<;>intro k33
 refine Jsp (Jt (JcondT (congrArg (fun b=>some (Value.bool b)) (decide_eq_true k33)) (Js (Jfw [box b (jS bc σ (cX x [.string pl,nv n])) 341,box b3 (encT s) 246] [0,1,2,3,4,5,6,9,10,507,8,511] (ocs (oca 1 rfl) (ocs (oca 0 rfl) (ocn _))) ?_))))
 refine Jz 9 ?_
 refine Fw.cf [1,4,4] (changed_fn b bc F x σ hσ pl n s.name 3 (j2 om)) ?_
 rintro _ _ ⟨rfl,rfl⟩
 refine⟨ocs (oca 0 rfl) (ocs (oca 3 rfl) (ocn _)),?_⟩
 refine Jz 1 ?_
 refine Fw.cf [4] (unless_fn bc F w s.name 10) ?_
 rintro _ _ ⟨rfl,rfl⟩
 refine⟨ocs (oca 1 rfl) (ocs (oca 4 rfl) (ocn _)),?_⟩
 refine Jz 6 ?_
 refine Jcf [1,0,3,3,0,0] (all_fn b bc F x σ hσ pl n w 1 s.A s.q s.exprs om hlow (je om)) ?_
 rintro _ _ ⟨rfl,rfl⟩
 refine To.n (Jbn (Jdel3 (Jdel2 (Jend0 (.inr rfl) results201 ?_))))
 exact⟨rfl,rfl⟩
 refine Jz 5 ?_
 refine Jcp rfl ?_ ?_<;>intro k33_2
 refine Js (Jfw [box b (jS bc σ (cX x [.string pl,nv n])) 341,box b3 (encT s) 246] [0,1,2,3,4,5,6,9,10,507,8,511] (ocs (oca 1 rfl) (ocs (oca 0 rfl) (ocn _))) ?_)
 refine Jz 9 ?_
 refine Fw.cf [1,4,4] (changed_fn b bc F x σ hσ pl n s.name 3 (j2 om)) ?_
 rintro _ _ ⟨rfl,rfl⟩
 refine⟨ocs (oca 0 rfl) (ocs (oca 3 rfl) (ocn _)),?_⟩
 refine Jz 1 ?_
 refine Fw.cf [4] (unless_fn bc F w s.name 10) ?_
 rintro _ _ ⟨rfl,rfl⟩
 refine⟨ocs (oca 1 rfl) (ocs (oca 4 rfl) (ocn _)),?_⟩
 refine Jz 6 ?_
 refine Jcf [1,0,3,3,0,0] (all_fn b bc F x σ hσ pl n w 1 s.A s.q s.exprs om hlow (je om)) ?_
 rintro _ _ ⟨rfl,rfl⟩
 refine To.n (Jbn (Jdel3 (Jdel2 (Jend0 (.inr rfl) results201 ?_))))
 exact⟨rfl,rfl⟩
 refine Jz 6 ?_
 refine Jcp rfl ?_ ?_<;>intro k52
 refine Js (Jfw [box b (jS bc σ (cX x [.string pl,nv n])) 341,box b3 (encT s) 246] [0,1,2,3,4,5,6,9,10,507,8,511] (ocs (oca 1 rfl) (ocs (oca 0 rfl) (ocn _))) ?_)
 refine Jz 9 ?_
 refine Fw.cf [1,4,4] (changed_fn b bc F x σ hσ pl n s.name 1 (j9 om)) ?_
 rintro _ _ ⟨rfl,rfl⟩
 refine⟨ocs (oca 0 rfl) (ocs (oca 3 rfl) (ocn _)),?_⟩
 refine Jz 1 ?_
 refine Fw.cf [4] (unless_fn bc F w s.name 10) ?_
 rintro _ _ ⟨rfl,rfl⟩
 refine⟨ocs (oca 1 rfl) (ocs (oca 4 rfl) (ocn _)),?_⟩
 refine Jz 6 ?_
 refine Jcf [1,0,3,3,0,0] (all_fn b bc F x σ hσ pl n w 1 s.A s.q s.exprs om hlow (je om)) ?_
 rintro _ _ ⟨rfl,rfl⟩
 refine To.n (Jbn (Jdel3 (Jdel2 (Jend0 (.inr rfl) results201 ?_))))
 exact⟨rfl,rfl⟩
 refine Jz 7 ?_
 refine Jcp rfl ?_ ?_<;>intro k70
 refine Jsp (Jt (JcondT (congrArg (fun b=>some (Value.bool b)) (decide_eq_true k70)) (Jz 4 ?_)))
 refine Jcf [1,1,1,1,1,1] (all_fn b bc F x σ hσ pl n w 2 s.A s.q s.exprs om hlow (jb om)) ?_
 rintro _ _ ⟨rfl,rfl⟩
 refine To.n (Jbn (Jdel3 (Jdel2 (Jend0 (.inr rfl) results201 ?_))))
 exact⟨rfl,rfl⟩
 refine Jz 5 ?_
 refine Jcp rfl ?_ ?_<;>intro k70_2
 refine Jz 4 ?_
 refine Jcf [1,1,1,1,1,1] (all_fn b bc F x σ hσ pl n w 2 s.A s.q s.exprs om hlow (jb om)) ?_
 rintro _ _ ⟨rfl,rfl⟩
 refine To.n (Jbn (Jdel3 (Jdel2 (Jend0 (.inr rfl) results201 ?_))))
 exact⟨rfl,rfl⟩
 refine Jz 6 ?_
 refine Jcp rfl ?_ ?_<;>intro k77
 refine Js ?_
 obtain⟨c,h',hfc,hh',hhl⟩:=j6 om
 obtain⟨ic,hic⟩:=List.getElem?_of_mem (List.mem_of_find?_eq_some hfc)
 have hcv:c.vers.length≤2∧∀v∈c.vers,v.l.length≤3:=⟨(hF.comp c (mog hic)).vers2,fun v hv=>((hF.comp c (mog hic)).ver v hv).1⟩
 refine To.one 7 rfl (ros encC F.Ac F.comps) rfl (Fl.comps_k (k:=eX)) (Jfw [] [0,1,2,8,103,4,5,6,107,109,310,11,12,13,214,15515,16] (ocn _) ?_)
 refine Jz 10 ?_
 refine Fw.qf (fcomp_some F.Ac F.qc F.comps s.name c om hfc) (ocs (oca 0 rfl) (ocn _)) ?_
 refine Jz 3 ?_
 refine Fw.mk rfl rfl rfl rfl rfl (Mk.alloc rfl z175) ?_
 rintro _ _ ⟨b5,rfl,rfl⟩
 refine Fw.up rfl rfl rfl (Up.storeS (i:=0) rfl rfl rfl r175 rfl rfl rfl (bta rfl)) (ocn _) ?_
 refine Jz 4 ?_
 refine Jfw [] [0,1,2,4,5,103,106,507] (ocn _) ?_
 refine Jz 7 ?_
 refine Fw.cf [4] (unless_fn bc F w s.name 9) ?_
 rintro _ _ ⟨rfl,rfl⟩
 refine⟨ocn _,?_⟩
 refine Jz 2 ?_
 refine Jpart 9 rfl (c.kids eX) (Cm.lax eX c) (Fl.comp_k hic) (To.one 0 rfl (ros encVs c.An c.vers) rfl (Cm.vers_k (k:=eX)) (Jpart 1 rfl (c.vers.flatMap (Vs.kids eX)) (Lax.flat fun h _=>Vs.lax eX h) (fun z hz=>List.mem_cons_of_mem _ (List.mem_cons_of_mem _ hz)) (Jz 7 ?_)))
 refine Jcf [7,3,6,6,6,6,1,0] (call_fn b bc F x σ hσ pl n w c s.hand h' 0 s.A s.q s.exprs om hlow (je om) hcv hh' (by decide) (by rw[Ex.pureL_map,List.length_map]at hhl;omega)) ?_
 rintro _ _ ⟨rfl,rfl⟩
 refine To.n (Jbn (Jdel6 (Jdel5 (Jdel4 (Jdel3 (Jdel2 (Jend0 (.inr rfl) results201 ?_)))))))
 exact⟨rfl,rfl⟩
 refine Jz 6 ?_
 refine Jcp rfl ?_ ?_<;>intro k108
 obtain⟨h',hh',hhl⟩:=j7 om
 have hxv:x.vers.length≤2∧∀v∈x.vers,v.l.length≤3:=⟨(hF.comp x (mog hx)).vers2,fun v hv=>((hF.comp x (mog hx)).ver v hv).1⟩
 refine Jpart 7 rfl (x.kids eX) (Cm.lax eX x) (Fl.comp_k hx) (To.one 0 rfl (ros encVs x.An x.vers) rfl (Cm.vers_k (k:=eX)) (Jpart 1 rfl (x.vers.flatMap (Vs.kids eX)) (Lax.flat fun h _=>Vs.lax eX h) (fun z hz=>List.mem_cons_of_mem _ (List.mem_cons_of_mem _ hz)) (Jfw [] [0,1,2,3,5,7,104,106,108,509] (ocn _) ?_)))
 refine Jz 6 ?_
 refine Fw.r rfl (Rd.lS (i:=4) (us:=(cX x [])) rfl rfl r175 rfl (box_gives (n:=3) rfl) rfl) ?_
 refine Jz 2 ?_
 refine Fw.cf [4,4,4,4,4,4,1,0] (call_fn b bc F x σ hσ pl n w x s.hand h' 1 s.A s.q s.exprs om hlow (je om) hxv hh' (by decide) (by rw[Ex.pureL_map,List.length_map]at hhl;omega)) ?_
 rintro _ _ ⟨rfl,rfl⟩
 refine⟨ocn _,?_⟩
 refine Jz 2 ?_
 refine Jdel4 (Jdel3 (Jdel2 (Jend0 (.inr rfl) results201 ?_)))
 exact⟨rfl,rfl⟩
 refine Jz 6 ?_
 refine Jcp rfl ?_ ?_<;>intro k120
 refine Jz 4 ?_
 refine Jcf [1,1,1,1,1,1] (all_fn b bc F x σ hσ pl n w 1 s.A s.q s.exprs om hlow (je om)) ?_
 rintro _ _ ⟨rfl,rfl⟩
 refine To.n (Jbn (Jdel3 (Jdel2 (Jend0 (.inr rfl) results201 ?_))))
 exact⟨rfl,rfl⟩
 refine Jz 2 ?_
 refine Jdel7 (Jdel6 (Jdel5 (Jdel4 (Jdel3 (Jdel0 (Jend0 (.inr rfl) results201 ?_))))))
 exact⟨rfl,rfl⟩
theorem stmts_step(b bc:Nat)(F:Fl)(x:Cm)(σ:Scp)(hσ:σ.Low)(pl:ByteArray)(hpl:pl.size≤100)(hF:GoodX F)(i:Nat)(hx:F.comps[i]?=some x)(l:List St)(ih:∀s∈l,(∀(A:OA) (q n:Nat) (w:ByteArray),s.thn.length≤12→PS.lowL (St.pL s.thn)→PS.TyL F x σ (St.pL s.thn)→n+PS.cntL (St.pL s.thn)≤1000→Dz 182 [pv b,vs A s.thn q] [box b (jS bc σ (cX x [.string pl,nv n])) 341,box bc (cF F [.string w, .string nE, .string nE, .int .i64 0]) 235,all (lsG encX encT A s.thn),ros encFg σ.Af σ.flags,ros encVx σ.Av σ.vars,ros encZ σ.Ap σ.ps,all (F.kids eX),p10c] (fun v Γ'=>∃w':ByteArray,v= .tuple #[]∧Γ'=[box b (jS bc σ (cX x [.string pl,nv ((n+PS.cntL (St.pL s.thn)))])) 341,box bc (cF F [.string w', .string nE, .string nE, .int .i64 0]) 235]))∧(∀(A:OA) (q n:Nat) (w:ByteArray),s.els.length≤12→PS.lowL (St.pL s.els)→PS.TyL F x σ (St.pL s.els)→n+PS.cntL (St.pL s.els)≤1000→Dz 182 [pv b,vs A s.els q] [box b (jS bc σ (cX x [.string pl,nv n])) 341,box bc (cF F [.string w, .string nE, .string nE, .int .i64 0]) 235,all (lsG encX encT A s.els),ros encFg σ.Af σ.flags,ros encVx σ.Av σ.vars,ros encZ σ.Ap σ.ps,all (F.kids eX),p10c] (fun v Γ'=>∃w':ByteArray,v= .tuple #[]∧Γ'=[box b (jS bc σ (cX x [.string pl,nv ((n+PS.cntL (St.pL s.els)))])) 341,box bc (cF F [.string w', .string nE, .string nE, .int .i64 0]) 235])))(A:OA)(q n:Nat)(w:ByteArray)(hl:l.length≤12)(hlow:PS.lowL (St.pL l))(hty:PS.TyL F x σ (St.pL l))(hb:n+PS.cntL (St.pL l)≤1000):
    Dz 182 [pv b,vs A l q] [box b (jS bc σ (cX x [.string pl,nv n])) 341,box bc (cF F [.string w, .string nE, .string nE, .int .i64 0]) 235,all (lsG encX encT A l),ros encFg σ.Af σ.flags,ros encVx σ.Av σ.vars,ros encZ σ.Ap σ.ps,all (F.kids eX),p10c] (fun v Γ'=>∃w':ByteArray,v= .tuple #[]∧Γ'=[box b (jS bc σ (cX x [.string pl,nv ((n+PS.cntL (St.pL l)))])) 341,box bc (cF F [.string w', .string nE, .string nE, .int .i64 0]) 235]):=by
 refine Does.en func182 ntmps182 fun w0=>?_
 refine Js (To.one 2 rfl (ros encT A l) rfl (List.mem_cons_self ..) (Jz 7 ?_))
 refine To.loP (fun s g mz ρ Γ=>∃(m:Nat) (ww:ByteArray) (k:Nat),ρ=[s 0,s 6,s 7,(8,nv k)]∧Γ=[box b (jS bc σ (cX x [.string pl,nv m])) 341,box bc (cF F [.string ww, .string nE, .string nE, .int .i64 0]) 235,g 0,g 3,g 4,g 5,g 6,g 7,p10c]∧mz=l.length-k∧(k≤l.length)∧(m=n+PS.cntL (St.pL (l.take k)))) ⟨⟨n,w,0,rfl,rfl,rfl,om,rfl⟩,sb⟩ ?_
 rintro mz _ _ ⟨m,ww,k,rfl,rfl,rfl,hk,hm⟩
 refine Jz 6 ?_
 refine Jcp rfl ?_ ?_<;>intro k9
 obtain⟨s,hs⟩:=exg l k om
 obtain⟨hsk,⟨hse,hsl⟩,⟨hst,hstl⟩,hsn,hsnl⟩:=St.low_at (St.lowL_at hlow (mog hs))
 have hsT:=St.ty_at (St.tyL_at hty (mog hs))
 have hsm:s.pure∈St.pL l:=by rw[St.pm];exact List.mem_map.2 ⟨s,mog hs,rfl⟩
 have htk:St.pL (l.take (k+1))=St.pL (l.take k)++[s.pure]:=by rw[take_of_get hs,St.pm,List.map_append,←St.pm];rfl
 have hsc:PS.cnt s.pure=1+PS.cntL (St.pL s.thn)+PS.cntL (St.pL s.els):=by rw[St.pq s];rfl
 have hcs:PS.cntL (St.pL (l.take (k+1)))=PS.cntL (St.pL (l.take k))+PS.cnt s.pure:=by rw[htk,PS.cntL_app];show _+(PS.cnt s.pure+0)=_;omega
 have hall:PS.cntL (St.pL (l.take (k+1)))≤PS.cntL (St.pL l):=by
  have h1:St.pL l=St.pL (l.take (k+1))++St.pL (l.drop (k+1)):=by rw[St.pm,St.pm,St.pm,←List.map_append,List.take_append_drop]
  rw[h1,PS.cntL_app];omega
 refine Jz 8 ?_
 refine Jal fun b5=>?_
 refine Jz 5 ?_
 refine Jfw [] [0,1,2,4,5,6,8,9,10,111,312,103,107,13,514,15] (ocn _) ?_
 refine Jz 10 ?_
 refine Fw.qf (itoa_fn ((m:Nat):Int) om om) (ocs (oca 9 rfl) (ocn _)) ?_
 refine Jz 2 ?_
 refine Fw.f rfl (Rd.addZ (a:=pl) (b:=(BA (Lib.itoa ((m:Nat):Int)))) rfl rfl rfl (by rw[BA_size];have:=itoa_len (n:=((m:Nat):Int)) om om;omega)) ?_
 refine Fw.cf [2] (at_fn bc F ww (pl++(BA (Lib.itoa ((m:Nat):Int))))) ?_
 rintro _ _ ⟨rfl,rfl⟩
 refine⟨ocn _,?_⟩
 refine Jz 19 ?_
 refine Jpart 4 rfl (lsG encX encT s.Ae s.els) (lsG_lax _ _ _ _) (fun c hc=>lg_mem hs c (St.els_kids s c hc)) (Jpart 5 rfl (lsG encX encT s.At s.thn) (lsG_lax _ _ _ _) (fun c hc=>lg_mem hs c (St.thn_kids s c hc)) (Jpart 6 rfl (lsF encX s.A s.exprs) (lsF_lax _ _ _) (fun c hc=>lg_mem hs c (St.exprs_kids s c hc)) (Jdup 10 rfl rfl (Jdup 10 rfl rfl (Jdup 10 rfl rfl (Jpart 14 rfl (F.kids eX) (Fl.lax eX F) (fun c hc=>hc) (Jz 3 ?_)))))))
 refine Jcf [9,7,4,1,1,1,0] (stmt_fn b bc F x σ hσ pl (m+1) (pl++(BA (Lib.itoa ((m:Nat):Int)))) hF i hx s hse hsl hsT.1) ?_
 rintro _ _ ⟨rfl,rfl⟩
 refine Jz 3 ?_
 refine Jdup 9 rfl rfl (Jdup 9 rfl rfl (Jdup 9 rfl rfl (Jpart 13 rfl (F.kids eX) (Fl.lax eX F) (fun c hc=>hc) (Jdup 15 rfl rfl (Jz 4 ?_)))))
 refine Jcf [5,5,5,2,2,2,1,0] ((ih s (mog hs)).1 s.At s.qt (m+1) (pl++(BA (Lib.itoa ((m:Nat):Int)))) hst hstl hsT.2.1 om) ?_
 rintro _ _ ⟨w2,rfl,rfl⟩
 refine To.n (Jt (Jdup 8 rfl rfl (Jdup 8 rfl rfl (Jdup 8 rfl rfl (Jpart 12 rfl (F.kids eX) (Fl.lax eX F) (fun c hc=>hc) (Jdup 14 rfl rfl (Jz 4 ?_)))))))
 refine Jcf [5,5,5,2,2,2,1,0] ((ih s (mog hs)).2 s.Ae s.qe (m+1+PS.cntL (St.pL s.thn)) w2 hsn hsnl hsT.2.2 om) ?_
 rintro _ _ ⟨w2_2,rfl,rfl⟩
 refine Jz 8 ?_
 refine To.agP ⟨⟨((m+1+PS.cntL (St.pL s.thn))+PS.cntL (St.pL s.els)),w2_2,k+1,rfl,rfl,rfl,om,(by rw[hcs,hsc];omega)⟩,sb⟩
 refine Jz 4 ?_
 refine Jdel8 (Jdel7 (Jdel6 (Jdel5 (Jdel4 (Jdel3 (Jdel2 (Jend0 (.inr rfl) results182 ?_)))))))
 obtain rfl:k=l.length:=om
 rw[hm,List.take_length];exact⟨_,rfl,rfl⟩
theorem stmts_fn(b bc:Nat)(F:Fl)(x:Cm)(σ:Scp)(hσ:σ.Low)(pl:ByteArray)(hpl:pl.size≤100)(hF:GoodX F)(i:Nat)(hx:F.comps[i]?=some x):∀l:List St,∀(A:OA) (q n:Nat) (w:ByteArray),l.length≤12→PS.lowL (St.pL l)→PS.TyL F x σ (St.pL l)→n+PS.cntL (St.pL l)≤1000→Dz 182 [pv b,vs A l q] [box b (jS bc σ (cX x [.string pl,nv n])) 341,box bc (cF F [.string w, .string nE, .string nE, .int .i64 0]) 235,all (lsG encX encT A l),ros encFg σ.Af σ.flags,ros encVx σ.Av σ.vars,ros encZ σ.Ap σ.ps,all (F.kids eX),p10c] (fun v Γ'=>∃w':ByteArray,v= .tuple #[]∧Γ'=[box b (jS bc σ (cX x [.string pl,nv ((n+PS.cntL (St.pL l)))])) 341,box bc (cF F [.string w', .string nE, .string nE, .int .i64 0]) 235])
 |l,A,q,n,w,h1,h2,h3,h4=>stmts_step b bc F x σ hσ pl hpl hF i hx l (fun s hs=>⟨stmts_fn b bc F x σ hσ pl hpl hF i hx s.thn,stmts_fn b bc F x σ hσ pl hpl hF i hx s.els⟩) A q n w h1 h2 h3 h4
termination_by l=>SizeOf.sizeOf l
decreasing_by
 all_goals
  have h:=List.sizeOf_lt_of_mem hs
  have:SizeOf.sizeOf s.thn<SizeOf.sizeOf s∧SizeOf.sizeOf s.els<SizeOf.sizeOf s:=by cases s;simp only[St.mk.sizeOf_spec];omega
  omega
end Go.Proofs.YtlihklladkagpaaGreatDoor

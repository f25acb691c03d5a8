/- Own text. -/
import Derived.Test.YtlihklladkagpaaGreatDoorVb
set_option maxHeartbeats 8000000
set_option maxRecDepth 100000
set_option linter.unusedVariables false
set_option linter.unusedSimpArgs false
namespace Go.Proofs.YtlihklladkagpaaGreatDoor
open Go.Proofs.Tryz
open Go.RowKit Go.Flow Go.Mem Go.Sep Go.In
structure StT(F:Fl)(x:Cm)(σ:Scp)(k:Nat)(s h:ByteArray)(es:List PE):Prop where
 k1:k=1→∃t,(t=1∨t=2)∧σ.Ch s t∧Od σ es t
 k2:k=2∨k=3→σ.Ch s 3
 k9:k=9→σ.Ch s 1
 ke:k=2∨k=3∨k=6∨k=7∨k=8∨k=9→Od σ es 1
 kb:k=4∨k=5→Od σ es 2
 k6:k=6→∃c h',fdC F.comps s=some c∧fdH c.vers h=some h'∧es.length=h'.ps.length
 k7:k=7→∃h',fdH x.vers h=some h'∧es.length=h'.ps.length+1
mutual
def PS.Ty(F:Fl)(x:Cm)(σ:Scp):PS→Prop
 |⟨k,s,h,es,t,e⟩=>StT F x σ k s h es∧Li F x σ t∧Li F x σ e
def Li(F:Fl)(x:Cm)(σ:Scp):List PS→Prop
 |[]=>True
 |s::r=>PS.Ty F x σ s∧Li F x σ r
end
section
variable{F:Fl}{x:Cm}{σ:Scp}
theorem kF:∀{l:List PS},Li F x σ l→∀s∈l,s.Ty F x σ
 |[],_,x,h=>by cases h
 | e::r,h,x,hx=>by
   rcases aEi.1 hx with rfl|hx
   ·exact h.1
   ·exact kF h.2 x hx
theorem Qi:∀{l:List PS},(∀s∈l,s.Ty F x σ)→Li F x σ l
 |[],_=>trivial
 |e::r,h=>⟨h e (aEd ..),Qi fun x hx=>h x (aEb _ hx)⟩
theorem uM{s:St}(h:s.pure.Ty F x σ):StT F x σ s.kind s.name s.hand (Cv s.exprs)∧Li F x σ (Ba s.thn)∧Li F x σ (Ba s.els):=by
 rw[Nh]at h
 exact h
theorem nI{l:List St}(h:Li F x σ (Ba l)){s:St}(hx:s∈l):s.pure.Ty F x σ:=kF h s.pure (by rw[Je];exact aEv.2 ⟨s,hx,rfl⟩)
end
theorem Us(b bc:Nat)(F:Fl)(x:Cm)(σ:Scp)(hσ:σ.Low)(pl:ByteArray)(n:Nat)(s:ByteArray)(t:Nat)(h:σ.Ch s t):
    Dz 216 [pv b, .string s] [box b (jS bc σ (cX x [.string pl,nv n])) 341,ros Iy σ.Av σ.vars,ros encZ σ.Ap σ.ps] (fun v Γ'=>v= .int .u8 ((t:Nat):Int)∧Γ'=[box b (jS bc σ (cX x [.string pl,nv n])) 341,ros Iy σ.Av σ.vars,ros encZ σ.Ap σ.ps]):=by
 refine Am func216 ntmps216 fun w0=>?_
 refine Jz 10 ?_
 refine Jr (Ij (i:=0) (us:=[vs σ.Af σ.flags σ.qf,vs σ.Av σ.vars σ.qv,vs σ.Ap σ.ps σ.qp]) rfl rfl aAt rfl (Fh (n:=3) rfl) rfl) ?_
 refine Jm ?_
 refine Jqf (BQ σ hσ s _ h) rfl (ocs (oca 1 rfl) (ocs (oca 2 rfl) (ocn _))) ?_
 rintro _ _ ⟨w,rfl,rfl,hw⟩
 refine⟨rfl,?_⟩
 refine Jz 3 ?_
 refine Jal fun b5=>?_
 refine Jz 20 ?_
 refine Du (Je1 results216 ?_)
 rw[hw];exact⟨rfl,rfl⟩
theorem Ut(b bc:Nat)(F:Fl)(x:Cm)(σ:Scp)(hσ:σ.Low)(pl:ByteArray)(n:Nat)(w:ByteArray)(t:Nat)(A:OA)(q:Nat)(l:List Ex)(hl:l.length≤12)(hlow:Kk (Cv l))(hty:Od σ (Cv l) t):
    Dz 217 [pv b, .int .u8 ((t:Nat):Int),vs A l q] [box b (jS bc σ (cX x [.string pl,nv n])) 341,box bc (cF F [.string w, .string nE, .string nE,iv 0]) 235,all (lsF Bw A l),ros Gx σ.Af σ.flags,ros Iy σ.Av σ.vars,ros encZ σ.Ap σ.ps] (fun v Γ'=>v= .tuple #[]∧Γ'=[box b (jS bc σ (cX x [.string pl,nv n])) 341,box bc (cF F [.string w, .string nE, .string nE,iv 0]) 235]):=by
 refine Am func217 ntmps217 fun w0=>?_
 refine Js (To.one 2 rfl (ros Bw A l) rfl (aEd ..) (Jz 7 ?_))
 refine Cw (fun s g mz ρ Γ=>∃(k:Nat),ρ=[s 0,s 1,s 11,s 12,(13,nv k)]∧Γ=[g 1,g 2,g 0,g 3,g 4,g 5,g 6]∧mz=l.length-k∧(k≤l.length)) ⟨⟨0,rfl,rfl,rfl,om⟩,sb⟩ ?_
 rintro mz _ _ ⟨k,rfl,rfl,rfl,hk⟩
 refine Jz 6 ?_
 refine Jcp rfl ?_ ?_<;>intro c14
 obtain⟨y,hy⟩:=exg l k om
 refine Jz 8 ?_
 refine Jal fun b7=>?_
 refine Jz 4 ?_
 refine Db 4 rfl (y.kids Bw) (Ex.lax Bw y) (Yo hy) (Jfw [] [0,1,2,103,104,405,6006,6007,6008,6009,6010,6011,6012] (ocn _) ?_)
 refine Jz 3 ?_
 refine Fw.r rfl (Ij (i:=2) (us:=[vs σ.Af σ.flags σ.qf,vs σ.Av σ.vars σ.qv,vs σ.Ap σ.ps σ.qp]) rfl rfl aAt rfl (Fh (n:=3) rfl) rfl) ?_
 refine Jz 1 ?_
 refine Gj rfl rfl rfl rfl rfl .fc (nH σ hσ y t (Ob hlow (mog hy)) (nG hty (mog hy))) (by show owns (y.kids Bw)++[]=[];rw[(Ex.lax Bw y).owns];rfl) (ocs (oca 0 rfl) (ocs (oca 6 rfl) (ocs (oca 7 rfl) (ocs (oca 8 rfl) (ocn _))))) ?_
 rintro _ _ ⟨rfl,rfl⟩
 refine⟨rfl,?_⟩
 refine Jz 17 ?_
 refine Jcf [3] (bV bc F w nE) ?_
 rintro _ _ ⟨rfl,rfl⟩
 refine Jz 9 ?_
 refine Jr (Cr (v':= .bool true) (congrArg Value.bool (aEk (rfl))) (Rd.eql rfl rfl rfl)) ?_
 refine Jcf [0] (Ia bc F w nE 10) ?_
 rintro _ _ ⟨rfl,rfl⟩
 refine Jz 8 ?_
 refine Cg ⟨⟨k+1,rfl,rfl,rfl,om⟩,sb⟩
 refine Jz 4 ?_
 refine Lj (Iu (Er (Dl (Cu (Co (.inr rfl) results217 ?_)))))
 exact⟨rfl,rfl⟩
theorem BR(b bc:Nat)(F:Fl)(x:Cm)(σ:Scp)(hσ:σ.Low)(pl:ByteArray)(n:Nat)(w:ByteArray)(y:Cm)(hn:ByteArray)(h':Hd)(fi:Int)(A:OA)(q:Nat)(l:List Ex)(hl:l.length≤12)(hlow:Kk (Cv l))(hty:Od σ (Cv l) 1)(hv:y.vers.length≤2∧∀v∈y.vers,v.l.length≤3)(hf:fdH y.vers hn=some h')(hfi:0≤fi∧fi≤1)(hle:(l.length:Int)-fi=h'.ps.length):
    Dz 218 [pv b, .agg (Jl y).toArray, .string hn,vs A l q,iv fi] [box b (jS bc σ (cX x [.string pl,nv n])) 341,box bc (cF F [.string w, .string nE, .string nE,iv 0]) 235,all (lsF Bw A l),ros Gx σ.Af σ.flags,ros Iy σ.Av σ.vars,ros encZ σ.Ap σ.ps,ros Ik y.An y.vers,all (y.vers.flatMap (Vs.kids eX))] (fun v Γ'=>v= .tuple #[]∧Γ'=[box b (jS bc σ (cX x [.string pl,nv n])) 341,box bc (cF F [.string w, .string nE, .string nE,iv 0]) 235]):=by
 refine Am func218 ntmps218 fun w0=>?_
 refine Js (To.g (Jbo fun b6=>?_))
 refine Jz 7 ?_
 refine Jqf (yF y.An y.qn y.vers hn h' om hv.2 hf) (by show owns (y.vers.flatMap (Vs.kids eX))++[]=[];rw[(Hm (k:=Vs.kids eX) (l:=y.vers) fun h _=>Vs.lax eX h).owns];rfl) (ocs (oca 7 rfl) (ocs (oca 8 rfl) (ocn _))) ?_
 rintro _ _ ⟨rfl,rfl⟩
 refine⟨rfl,?_⟩
 refine Jz 3 ?_
 refine Jal fun b10=>?_
 refine Jz 12 ?_
 refine Jcf [3] (Ia bc F w hn 9) ?_
 rintro _ _ ⟨rfl,rfl⟩
 refine Jz 3 ?_
 refine Jfw [] [0,1,2,4,5,6,7,8,12,103,109,10,11,513] (ocn _) ?_
 refine Jz 6 ?_
 refine Fw.f rfl (Gi rfl rfl rfl om) ?_
 refine Jz 5 ?_
 refine Fw.f rfl (Cr (v':= .bool true) (congrArg Value.bool (aEk om)) (Rd.eql rfl rfl rfl)) ?_
 refine Da [0] (Ia bc F w hn 10) ?_
 rintro _ _ ⟨rfl,rfl⟩
 refine⟨ocn _,?_⟩
 refine Jz 5 ?_
 refine Jcf [3,0,2,2,2,2] (Ut b bc F x σ hσ pl n w 1 A q l hl hlow hty) ?_
 rintro _ _ ⟨rfl,rfl⟩
 refine Jn (Iu (Er (Dl (Cu (Co (.inr rfl) results218 ?_)))))
 exact⟨rfl,rfl⟩
theorem SN(b bc:Nat)(F:Fl)(x:Cm)(σ:Scp)(hσ:σ.Low)(pl:ByteArray)(n:Nat)(w:ByteArray)(hF:Ol F)(i:Nat)(hx:F.comps[i]?=some x)(s:St)(hle:s.exprs.length≤4)(hlow:Kk (Cv s.exprs))(hT:StT F x σ s.kind s.name s.hand (Cv s.exprs)):
    Dz 201 [pv b, .agg (Dh s).toArray] [box b (jS bc σ (cX x [.string pl,nv n])) 341,box bc (cF F [.string w, .string nE, .string nE,iv 0]) 235,all (lsF Bw s.A s.exprs),ros Gx σ.Af σ.flags,ros Iy σ.Av σ.vars,ros encZ σ.Ap σ.ps,all (F.kids eX)] (fun v Γ'=>v= .tuple #[]∧Γ'=[box b (jS bc σ (cX x [.string pl,nv n])) 341,box bc (cF F [.string w, .string nE, .string nE,iv 0]) 235]):=by
 obtain⟨j1,j2,j9,je,jb,j6,j7⟩:=hT
 have hFc:=hF.comps
 refine Am func201 ntmps201 fun w0=>?_
 refine Js (To.g (Jbo fun b3=>?_))
 refine Jz 15 ?_
 refine Jcp rfl ?_ ?_<;>intro k9
 refine Js ?_
 obtain⟨t,ht,hch,hte⟩:=j1 om
 refine Jz 4 ?_
 refine Jcf [1,4,4] (Us b bc F x σ hσ pl n s.name t hch) ?_
 rintro _ _ ⟨rfl,rfl⟩
 refine Jz 7 ?_
 refine JgP ?_ ?_<;>intro g17
 refine Jz 11 ?_
 refine Jcf [0,3,3,3,0,0] (Ut b bc F x σ hσ pl n w t s.A s.q s.exprs om hlow hte) ?_
 rintro _ _ ⟨rfl,rfl⟩
 refine Jn (Jbn (Dl (Cu (Co (.inr rfl) results201 ?_))))
 exact⟨rfl,rfl⟩
 refine Jm ?_
 refine Jr (Cr (v':= .bool true) (congrArg Value.bool (aEk om)) (Rd.eql rfl rfl rfl)) ?_
 refine Jz 9 ?_
 refine Jcf [0,3,3,3,0,0] (Ut b bc F x σ hσ pl n w t s.A s.q s.exprs om hlow hte) ?_
 rintro _ _ ⟨rfl,rfl⟩
 refine Jn (Jbn (Dl (Cu (Co (.inr rfl) results201 ?_))))
 exact⟨rfl,rfl⟩
 refine Jz 7 ?_
 refine Jcp rfl ?_ ?_<;>intro k33
 refine Jsp (Jt (Gm (congrArg (fun b=>some (Value.bool b)) (aEk k33)) (Js (Jfw [box b (jS bc σ (cX x [.string pl,nv n])) 341,box b3 (Dh s) 246] [0,1,2,3,4,5,6,9,10,507,8,511] (ocs (oca 1 rfl) (ocs (oca 0 rfl) (ocn _))) ?_))))
 refine Jz 9 ?_
 refine Da [1,4,4] (Us b bc F x σ hσ pl n s.name 3 (j2 om)) ?_
 rintro _ _ ⟨rfl,rfl⟩
 refine⟨ocs (oca 0 rfl) (ocs (oca 3 rfl) (ocn _)),?_⟩
 refine Jz 1 ?_
 refine Da [4] (Ia bc F w s.name 10) ?_
 rintro _ _ ⟨rfl,rfl⟩
 refine⟨ocs (oca 1 rfl) (ocs (oca 4 rfl) (ocn _)),?_⟩
 refine Jz 6 ?_
 refine Jcf [1,0,3,3,0,0] (Ut b bc F x σ hσ pl n w 1 s.A s.q s.exprs om hlow (je om)) ?_
 rintro _ _ ⟨rfl,rfl⟩
 refine Jn (Jbn (Dl (Cu (Co (.inr rfl) results201 ?_))))
 exact⟨rfl,rfl⟩
 refine Jz 5 ?_
 refine Jcp rfl ?_ ?_<;>intro k33_2
 refine Js (Jfw [box b (jS bc σ (cX x [.string pl,nv n])) 341,box b3 (Dh s) 246] [0,1,2,3,4,5,6,9,10,507,8,511] (ocs (oca 1 rfl) (ocs (oca 0 rfl) (ocn _))) ?_)
 refine Jz 9 ?_
 refine Da [1,4,4] (Us b bc F x σ hσ pl n s.name 3 (j2 om)) ?_
 rintro _ _ ⟨rfl,rfl⟩
 refine⟨ocs (oca 0 rfl) (ocs (oca 3 rfl) (ocn _)),?_⟩
 refine Jz 1 ?_
 refine Da [4] (Ia bc F w s.name 10) ?_
 rintro _ _ ⟨rfl,rfl⟩
 refine⟨ocs (oca 1 rfl) (ocs (oca 4 rfl) (ocn _)),?_⟩
 refine Jz 6 ?_
 refine Jcf [1,0,3,3,0,0] (Ut b bc F x σ hσ pl n w 1 s.A s.q s.exprs om hlow (je om)) ?_
 rintro _ _ ⟨rfl,rfl⟩
 refine Jn (Jbn (Dl (Cu (Co (.inr rfl) results201 ?_))))
 exact⟨rfl,rfl⟩
 refine Jz 6 ?_
 refine Jcp rfl ?_ ?_<;>intro k52
 refine Js (Jfw [box b (jS bc σ (cX x [.string pl,nv n])) 341,box b3 (Dh s) 246] [0,1,2,3,4,5,6,9,10,507,8,511] (ocs (oca 1 rfl) (ocs (oca 0 rfl) (ocn _))) ?_)
 refine Jz 9 ?_
 refine Da [1,4,4] (Us b bc F x σ hσ pl n s.name 1 (j9 om)) ?_
 rintro _ _ ⟨rfl,rfl⟩
 refine⟨ocs (oca 0 rfl) (ocs (oca 3 rfl) (ocn _)),?_⟩
 refine Jz 1 ?_
 refine Da [4] (Ia bc F w s.name 10) ?_
 rintro _ _ ⟨rfl,rfl⟩
 refine⟨ocs (oca 1 rfl) (ocs (oca 4 rfl) (ocn _)),?_⟩
 refine Jz 6 ?_
 refine Jcf [1,0,3,3,0,0] (Ut b bc F x σ hσ pl n w 1 s.A s.q s.exprs om hlow (je om)) ?_
 rintro _ _ ⟨rfl,rfl⟩
 refine Jn (Jbn (Dl (Cu (Co (.inr rfl) results201 ?_))))
 exact⟨rfl,rfl⟩
 refine Jz 7 ?_
 refine Jcp rfl ?_ ?_<;>intro k70
 refine Jsp (Jt (Gm (congrArg (fun b=>some (Value.bool b)) (aEk k70)) (Jz 4 ?_)))
 refine Jcf [1,1,1,1,1,1] (Ut b bc F x σ hσ pl n w 2 s.A s.q s.exprs om hlow (jb om)) ?_
 rintro _ _ ⟨rfl,rfl⟩
 refine Jn (Jbn (Dl (Cu (Co (.inr rfl) results201 ?_))))
 exact⟨rfl,rfl⟩
 refine Jz 5 ?_
 refine Jcp rfl ?_ ?_<;>intro k70_2
 refine Jz 4 ?_
 refine Jcf [1,1,1,1,1,1] (Ut b bc F x σ hσ pl n w 2 s.A s.q s.exprs om hlow (jb om)) ?_
 rintro _ _ ⟨rfl,rfl⟩
 refine Jn (Jbn (Dl (Cu (Co (.inr rfl) results201 ?_))))
 exact⟨rfl,rfl⟩
 refine Jz 6 ?_
 refine Jcp rfl ?_ ?_<;>intro k77
 refine Js ?_
 obtain⟨c,h',hfc,hh',hhl⟩:=j6 om
 obtain⟨ic,hic⟩:=aFt (List.mem_of_find?_eq_some hfc)
 have hcv:c.vers.length≤2∧∀v∈c.vers,v.l.length≤3:=⟨(hF.comp c (mog hic)).vers2,fun v hv=>((hF.comp c (mog hic)).ver v hv).1⟩
 refine To.one 7 rfl (ros Jl F.Ac F.comps) rfl (Jc (k:=eX)) (Jfw [] [0,1,2,8,103,4,5,6,107,109,310,11,12,13,214,15515,16] (ocn _) ?_)
 refine Jz 10 ?_
 refine Fw.qf (kD F.Ac F.qc F.comps s.name c om hfc) (ocs (oca 0 rfl) (ocn _)) ?_
 refine Jz 3 ?_
 refine Fw.mk rfl rfl rfl rfl rfl (Mk.alloc rfl aAi) ?_
 rintro _ _ ⟨b5,rfl,rfl⟩
 refine Fw.up rfl rfl rfl (Bl (i:=0) rfl rfl rfl JR rfl rfl rfl (bta rfl)) (ocn _) ?_
 refine Jz 4 ?_
 refine Jfw [] [0,1,2,4,5,103,106,507] (ocn _) ?_
 refine Jz 7 ?_
 refine Da [4] (Ia bc F w s.name 9) ?_
 rintro _ _ ⟨rfl,rfl⟩
 refine⟨ocn _,?_⟩
 refine Jz 2 ?_
 refine Db 9 rfl (c.kids eX) (Cm.lax eX c) (Fj hic) (To.one 0 rfl (ros Ik c.An c.vers) rfl (Lm (k:=eX)) (Db 1 rfl (c.vers.flatMap (Vs.kids eX)) (Hm fun h _=>Vs.lax eX h) (fun z hz=>aEb _ (aEb _ hz)) (Jz 7 ?_)))
 refine Jcf [7,3,6,6,6,6,1,0] (BR b bc F x σ hσ pl n w c s.hand h' 0 s.A s.q s.exprs om hlow (je om) hcv hh' (by decide) (by rw[Bz,aEg]at hhl;omega)) ?_
 rintro _ _ ⟨rfl,rfl⟩
 refine Jn (Jbn (Lj (Iu (Er (Dl (Cu (Co (.inr rfl) results201 ?_)))))))
 exact⟨rfl,rfl⟩
 refine Jz 6 ?_
 refine Jcp rfl ?_ ?_<;>intro k108
 obtain⟨h',hh',hhl⟩:=j7 om
 have hxv:x.vers.length≤2∧∀v∈x.vers,v.l.length≤3:=⟨(hF.comp x (mog hx)).vers2,fun v hv=>((hF.comp x (mog hx)).ver v hv).1⟩
 refine Db 7 rfl (x.kids eX) (Cm.lax eX x) (Fj hx) (To.one 0 rfl (ros Ik x.An x.vers) rfl (Lm (k:=eX)) (Db 1 rfl (x.vers.flatMap (Vs.kids eX)) (Hm fun h _=>Vs.lax eX h) (fun z hz=>aEb _ (aEb _ hz)) (Jfw [] [0,1,2,3,5,7,104,106,108,509] (ocn _) ?_)))
 refine Jz 6 ?_
 refine Fw.r rfl (Ij (i:=4) (us:=(cX x [])) rfl rfl JR rfl (Fh (n:=3) rfl) rfl) ?_
 refine Jz 2 ?_
 refine Da [4,4,4,4,4,4,1,0] (BR b bc F x σ hσ pl n w x s.hand h' 1 s.A s.q s.exprs om hlow (je om) hxv hh' (by decide) (by rw[Bz,aEg]at hhl;omega)) ?_
 rintro _ _ ⟨rfl,rfl⟩
 refine⟨ocn _,?_⟩
 refine Jz 2 ?_
 refine Er (Dl (Cu (Co (.inr rfl) results201 ?_)))
 exact⟨rfl,rfl⟩
 refine Jz 6 ?_
 refine Jcp rfl ?_ ?_<;>intro k120
 refine Jz 4 ?_
 refine Jcf [1,1,1,1,1,1] (Ut b bc F x σ hσ pl n w 1 s.A s.q s.exprs om hlow (je om)) ?_
 rintro _ _ ⟨rfl,rfl⟩
 refine Jn (Jbn (Dl (Cu (Co (.inr rfl) results201 ?_))))
 exact⟨rfl,rfl⟩
 refine Jz 2 ?_
 refine Xp (Lj (Iu (Er (Dl (Du (Co (.inr rfl) results201 ?_))))))
 exact⟨rfl,rfl⟩
theorem yH(b bc:Nat)(F:Fl)(x:Cm)(σ:Scp)(hσ:σ.Low)(pl:ByteArray)(hpl:pl.size≤100)(hF:Ol F)(i:Nat)(hx:F.comps[i]?=some x)(l:List St)(ih:∀s∈l,(∀(A:OA) (q n:Nat) (w:ByteArray),s.thn.length≤12→Dy (Ba s.thn)→Li F x σ (Ba s.thn)→n+Ca (Ba s.thn)≤1000→Dz 182 [pv b,vs A s.thn q] [box b (jS bc σ (cX x [.string pl,nv n])) 341,box bc (cF F [.string w, .string nE, .string nE,iv 0]) 235,all (lsG Bw Dh A s.thn),ros Gx σ.Af σ.flags,ros Iy σ.Av σ.vars,ros encZ σ.Ap σ.ps,all (F.kids eX),p10c] (fun v Γ'=>∃w':ByteArray,v= .tuple #[]∧Γ'=[box b (jS bc σ (cX x [.string pl,nv ((n+Ca (Ba s.thn)))])) 341,box bc (cF F [.string w', .string nE, .string nE,iv 0]) 235]))∧(∀(A:OA) (q n:Nat) (w:ByteArray),s.els.length≤12→Dy (Ba s.els)→Li F x σ (Ba s.els)→n+Ca (Ba s.els)≤1000→Dz 182 [pv b,vs A s.els q] [box b (jS bc σ (cX x [.string pl,nv n])) 341,box bc (cF F [.string w, .string nE, .string nE,iv 0]) 235,all (lsG Bw Dh A s.els),ros Gx σ.Af σ.flags,ros Iy σ.Av σ.vars,ros encZ σ.Ap σ.ps,all (F.kids eX),p10c] (fun v Γ'=>∃w':ByteArray,v= .tuple #[]∧Γ'=[box b (jS bc σ (cX x [.string pl,nv ((n+Ca (Ba s.els)))])) 341,box bc (cF F [.string w', .string nE, .string nE,iv 0]) 235])))(A:OA)(q n:Nat)(w:ByteArray)(hl:l.length≤12)(hlow:Dy (Ba l))(hty:Li F x σ (Ba l))(hb:n+Ca (Ba l)≤1000):
    Dz 182 [pv b,vs A l q] [box b (jS bc σ (cX x [.string pl,nv n])) 341,box bc (cF F [.string w, .string nE, .string nE,iv 0]) 235,all (lsG Bw Dh A l),ros Gx σ.Af σ.flags,ros Iy σ.Av σ.vars,ros encZ σ.Ap σ.ps,all (F.kids eX),p10c] (fun v Γ'=>∃w':ByteArray,v= .tuple #[]∧Γ'=[box b (jS bc σ (cX x [.string pl,nv ((n+Ca (Ba l)))])) 341,box bc (cF F [.string w', .string nE, .string nE,iv 0]) 235]):=by
 refine Am func182 ntmps182 fun w0=>?_
 refine Js (To.one 2 rfl (ros Dh A l) rfl (aEd ..) (Jz 7 ?_))
 refine Cw (fun s g mz ρ Γ=>∃(m:Nat) (ww:ByteArray) (k:Nat),ρ=[s 0,s 6,s 7,(8,nv k)]∧Γ=[box b (jS bc σ (cX x [.string pl,nv m])) 341,box bc (cF F [.string ww, .string nE, .string nE,iv 0]) 235,g 0,g 3,g 4,g 5,g 6,g 7,p10c]∧mz=l.length-k∧(k≤l.length)∧(m=n+Ca (Ba (l.take k)))) ⟨⟨n,w,0,rfl,rfl,rfl,om,rfl⟩,sb⟩ ?_
 rintro mz _ _ ⟨m,ww,k,rfl,rfl,rfl,hk,hm⟩
 refine Jz 6 ?_
 refine Jcp rfl ?_ ?_<;>intro k9
 obtain⟨s,hs⟩:=exg l k om
 obtain⟨hsk,⟨hse,hsl⟩,⟨hst,hstl⟩,hsn,hsnl⟩:=Qg (Oc hlow (mog hs))
 have hsT:=uM (nI hty (mog hs))
 have hsm:s.pure∈Ba l:=by rw[Je];exact aEv.2 ⟨s,mog hs,rfl⟩
 have htk:Ba (l.take (k+1))=Ba (l.take k)++[s.pure]:=by rw[Cf hs,Je,aEq,←Je];rfl
 have hsc:PS.cnt s.pure=1+Ca (Ba s.thn)+Ca (Ba s.els):=by rw[Nh s];rfl
 have hcs:Ca (Ba (l.take (k+1)))=Ca (Ba (l.take k))+PS.cnt s.pure:=by rw[htk,Qs];show _+(PS.cnt s.pure+0)=_;omega
 have hall:Ca (Ba (l.take (k+1)))≤Ca (Ba l):=by
  have h1:Ba l=Ba (l.take (k+1))++Ba (l.drop (k+1)):=by rw[Je,Je,Je,←aEq,aFs]
  rw[h1,Qs];omega
 refine Jz 8 ?_
 refine Jal fun b5=>?_
 refine Jz 5 ?_
 refine Jfw [] [0,1,2,4,5,6,8,9,10,111,312,103,107,13,514,15] (ocn _) ?_
 refine Jz 10 ?_
 refine Fw.qf (itoa_fn ((m:Nat):Int) om om) (ocs (oca 9 rfl) (ocn _)) ?_
 refine Jz 2 ?_
 refine Fw.f rfl (Io (a:=pl) (b:=(BA (Lib.itoa ((m:Nat):Int)))) rfl rfl rfl (by rw[BA_size];have:=itoa_len (n:=((m:Nat):Int)) om om;omega)) ?_
 refine Da [2] (nD bc F ww (pl++(BA (Lib.itoa ((m:Nat):Int))))) ?_
 rintro _ _ ⟨rfl,rfl⟩
 refine⟨ocn _,?_⟩
 refine Jz 19 ?_
 refine Db 4 rfl (lsG Bw Dh s.Ae s.els) (Dx _ _ _ _) (fun c hc=>Kw hs c (Ji s c hc)) (Db 5 rfl (lsG Bw Dh s.At s.thn) (Dx _ _ _ _) (fun c hc=>Kw hs c (Kj s c hc)) (Db 6 rfl (lsF Bw s.A s.exprs) (Ma _ _ _) (fun c hc=>Kw hs c (Ll s c hc)) (Px 10 rfl rfl (Px 10 rfl rfl (Px 10 rfl rfl (Db 14 rfl (F.kids eX) (Fl.lax eX F) (fun c hc=>hc) (Jz 3 ?_)))))))
 refine Jcf [9,7,4,1,1,1,0] (SN b bc F x σ hσ pl (m+1) (pl++(BA (Lib.itoa ((m:Nat):Int)))) hF i hx s hse hsl hsT.1) ?_
 rintro _ _ ⟨rfl,rfl⟩
 refine Jz 3 ?_
 refine Px 9 rfl rfl (Px 9 rfl rfl (Px 9 rfl rfl (Db 13 rfl (F.kids eX) (Fl.lax eX F) (fun c hc=>hc) (Px 15 rfl rfl (Jz 4 ?_)))))
 refine Jcf [5,5,5,2,2,2,1,0] ((ih s (mog hs)).1 s.At s.qt (m+1) (pl++(BA (Lib.itoa ((m:Nat):Int)))) hst hstl hsT.2.1 om) ?_
 rintro _ _ ⟨w2,rfl,rfl⟩
 refine Jn (Jt (Px 8 rfl rfl (Px 8 rfl rfl (Px 8 rfl rfl (Db 12 rfl (F.kids eX) (Fl.lax eX F) (fun c hc=>hc) (Px 14 rfl rfl (Jz 4 ?_)))))))
 refine Jcf [5,5,5,2,2,2,1,0] ((ih s (mog hs)).2 s.Ae s.qe (m+1+Ca (Ba s.thn)) w2 hsn hsnl hsT.2.2 om) ?_
 rintro _ _ ⟨w2_2,rfl,rfl⟩
 refine Jz 8 ?_
 refine Cg ⟨⟨((m+1+Ca (Ba s.thn))+Ca (Ba s.els)),w2_2,k+1,rfl,rfl,rfl,om,(by rw[hcs,hsc];omega)⟩,sb⟩
 refine Jz 4 ?_
 refine Kt (Xp (Lj (Iu (Er (Dl (Cu (Co (.inr rfl) results182 ?_)))))))
 obtain rfl:k=l.length:=om
 rw[hm,List.take_length];exact⟨_,rfl,rfl⟩
theorem kG(b bc:Nat)(F:Fl)(x:Cm)(σ:Scp)(hσ:σ.Low)(pl:ByteArray)(hpl:pl.size≤100)(hF:Ol F)(i:Nat)(hx:F.comps[i]?=some x):∀l:List St,∀(A:OA) (q n:Nat) (w:ByteArray),l.length≤12→Dy (Ba l)→Li F x σ (Ba l)→n+Ca (Ba l)≤1000→Dz 182 [pv b,vs A l q] [box b (jS bc σ (cX x [.string pl,nv n])) 341,box bc (cF F [.string w, .string nE, .string nE,iv 0]) 235,all (lsG Bw Dh A l),ros Gx σ.Af σ.flags,ros Iy σ.Av σ.vars,ros encZ σ.Ap σ.ps,all (F.kids eX),p10c] (fun v Γ'=>∃w':ByteArray,v= .tuple #[]∧Γ'=[box b (jS bc σ (cX x [.string pl,nv ((n+Ca (Ba l)))])) 341,box bc (cF F [.string w', .string nE, .string nE,iv 0]) 235])
 |l,A,q,n,w,h1,h2,h3,h4=>yH b bc F x σ hσ pl hpl hF i hx l (fun s hs=>⟨kG b bc F x σ hσ pl hpl hF i hx s.thn,kG b bc F x σ hσ pl hpl hF i hx s.els⟩) A q n w h1 h2 h3 h4
termination_by l=>SizeOf.sizeOf l
decreasing_by
 all_goals
  have h:=aFq hs
  have:SizeOf.sizeOf s.thn<SizeOf.sizeOf s∧SizeOf.sizeOf s.els<SizeOf.sizeOf s:=by cases s;simp only[St.mk.sizeOf_spec];omega
  omega
end Go.Proofs.YtlihklladkagpaaGreatDoor

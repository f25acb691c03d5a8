/- Own text. -/
import Derived.Test.YtlihklladkagpaaGreatDoorVb
set_option maxHeartbeats 8000000
set_option maxRecDepth 100000
set_option linter.unusedVariables false
set_option linter.unusedSimpArgs false
namespace Go.Proofs.YtlihklladkagpaaGreatDoor
open Go.Proofs.Tryz
open Go.RowKit Go.Flow Go.Mem Go.Sep Go.In
structure StT(F:Fl)(x:Cm)(σ:Scp)(k:Nat)(s h:ByteArray)(es:List PE):Prop where
 k1:k=1→∃t,(t=1∨t=2)∧σ.Ch s t∧Od σ es t
 k2:k=2∨k=3→σ.Ch s 3
 k9:k=9→σ.Ch s 1
 ke:k=2∨k=3∨k=6∨k=7∨k=8∨k=9→Od σ es 1
 kb:k=4∨k=5→Od σ es 2
 k6:k=6→∃c h',fdC F.comps s=some c∧fdH c.vers h=some h'∧es.length=h'.ps.length
 k7:k=7→∃h',fdH x.vers h=some h'∧es.length=h'.ps.length+1
mutual
def PS.Ty(F:Fl)(x:Cm)(σ:Scp):PS→Prop
 |⟨k,s,h,es,t,e⟩=>StT F x σ k s h es∧Li F x σ t∧Li F x σ e
def Li(F:Fl)(x:Cm)(σ:Scp):List PS→Prop
 |[]=>True
 |s::r=>PS.Ty F x σ s∧Li F x σ r
end
section
variable{F:Fl}{x:Cm}{σ:Scp}
theorem kF:∀{l:List PS},Li F x σ l→∀s∈l,s.Ty F x σ
 |[],_,x,h=>by cases h
 | e::r,h,x,hx=>by
   rcases aEi.1 hx with rfl|hx
   ·exact h.1
   ·exact kF h.2 x hx
theorem Qi:∀{l:List PS},(∀s∈l,s.Ty F x σ)→Li F x σ l
 |[],_=>trivial
 |e::r,h=>⟨h e (aEd ..),Qi fun x hx=>h x (aEb _ hx)⟩
theorem uM{s:St}(h:s.pure.Ty F x σ):StT F x σ s.kind s.name s.hand (Cv s.exprs)∧Li F x σ (Ba s.thn)∧Li F x σ (Ba s.els):=by
 rw[Nh]at h
 exact h
theorem nI{l:List St}(h:Li F x σ (Ba l)){s:St}(hx:s∈l):s.pure.Ty F x σ:=kF h s.pure (by rw[Je];exact aEv.2 ⟨s,hx,rfl⟩)
end
theorem Us(b bc:Nat)(F:Fl)(x:Cm)(σ:Scp)(hσ:σ.Low)(pl:ByteArray)(n:Nat)(s:ByteArray)(t:Nat)(h:σ.Ch s t):
    Dz 216 [pv b, .string s] [box b (jS bc σ (cX x [.string pl,nv n])) 341,ros Iy σ.Av σ.vars,ros aMb σ.Ap σ.ps] (fun v Γ'=>v= .int .u8 ((t:Nat):Int)∧Γ'=[box b (jS bc σ (cX x [.string pl,nv n])) 341,ros Iy σ.Av σ.vars,ros aMb σ.Ap σ.ps]):=by
 refine Am func216 ntmps216 fun w0=>?_
 refine Jz 10 ?_
 refine Jr (Ij (i:=0) (us:=[vs σ.Af σ.flags σ.qf,vs σ.Av σ.vars σ.qv,vs σ.Ap σ.ps σ.qp]) rfl rfl aAt rfl (Fh (n:=3) rfl) rfl) ?_
 refine Jm ?_
 refine Jqf (BQ σ hσ s _ h) rfl (ocs (oca 1 rfl) (ocs (oca 2 rfl) (ocn _))) ?_
 rintro _ _ ⟨w,rfl,rfl,hw⟩
 refine⟨rfl,?_⟩
 refine Jz 3 ?_
 refine Jal fun b5=>?_
 refine Jz 20 ?_
 refine Du (Je1 results216 ?_)
 rw[hw];exact⟨rfl,rfl⟩
theorem Ut(b bc:Nat)(F:Fl)(x:Cm)(σ:Scp)(hσ:σ.Low)(pl:ByteArray)(n:Nat)(w:ByteArray)(t:Nat)(A:OA)(q:Nat)(l:List Ex)(hl:l.length≤12)(hlow:Kk (Cv l))(hty:Od σ (Cv l) t):
    Dz 217 [pv b, .int .u8 ((t:Nat):Int),vs A l q] [box b (jS bc σ (cX x [.string pl,nv n])) 341,box bc (cF F [.string w, .string nE, .string nE,iv 0]) 235,all (lsF Bw A l),ros Gx σ.Af σ.flags,ros Iy σ.Av σ.vars,ros aMb σ.Ap σ.ps] (fun v Γ'=>v= .tuple #[]∧Γ'=[box b (jS bc σ (cX x [.string pl,nv n])) 341,box bc (cF F [.string w, .string nE, .string nE,iv 0]) 235]):=by
 refine Am func217 ntmps217 fun w0=>?_
 refine Js (To.one 2 rfl (ros Bw A l) rfl (aEd ..) (Jz 7 ?_))
 refine Cw (fun s g mz ρ Γ=>∃(k:Nat),ρ=[s 0,s 1,s 11,s 12,(13,nv k)]∧Γ=[g 1,g 2,g 0,g 3,g 4,g 5,g 6]∧mz=l.length-k∧(k≤l.length)) ⟨⟨0,rfl,rfl,rfl,om⟩,sb⟩ ?_
 rintro mz _ _ ⟨k,rfl,rfl,rfl,hk⟩
 refine Jz 6 ?_
 refine Jcp rfl ?_ ?_<;>intro c14
 obtain⟨y,hy⟩:=exg l k om
 refine Jz 8 ?_
 refine Jal fun b7=>?_
 refine Jz 4 ?_
 refine Db 4 rfl (y.kids Bw) (Ex.lax Bw y) (Yo hy) (Jfw [] [0,1,2,103,104,405,6006,6007,6008,6009,6010,6011,6012] (ocn _) ?_)
 refine Jz 3 ?_
 refine Fw.r rfl (Ij (i:=2) (us:=[vs σ.Af σ.flags σ.qf,vs σ.Av σ.vars σ.qv,vs σ.Ap σ.ps σ.qp]) rfl rfl aAt rfl (Fh (n:=3) rfl) rfl) ?_
 refine Jz 1 ?_
 refine Gj rfl rfl rfl rfl rfl .fc (nH σ hσ y t (Ob hlow (mog hy)) (nG hty (mog hy))) (by show owns (y.kids Bw)++[]=[];rw[(Ex.lax Bw y).owns];rfl) (ocs (oca 0 rfl) (ocs (oca 6 rfl) (ocs (oca 7 rfl) (ocs (oca 8 rfl) (ocn _))))) ?_
 rintro _ _ ⟨rfl,rfl⟩
 refine⟨rfl,?_⟩
 refine Jz 17 ?_
 refine Jcf [3] (bV bc F w nE) ?_
 rintro _ _ ⟨rfl,rfl⟩
 refine Jz 9 ?_
 refine Jr (Cr (v':= .bool true) (congrArg Value.bool (aEk (rfl))) (Rd.eql rfl rfl rfl)) ?_
 refine Jcf [0] (Ia bc F w nE 10) ?_
 rintro _ _ ⟨rfl,rfl⟩
 refine Jz 8 ?_
 refine Cg ⟨⟨k+1,rfl,rfl,rfl,om⟩,sb⟩
 refine Jz 4 ?_
 refine Lj (Iu (Er (Dl (Cu (Co (.inr rfl) results217 ?_)))))
 exact⟨rfl,rfl⟩
theorem BR(b bc:Nat)(F:Fl)(x:Cm)(σ:Scp)(hσ:σ.Low)(pl:ByteArray)(n:Nat)(w:ByteArray)(y:Cm)(hn:ByteArray)(h':Hd)(fi:Int)(A:OA)(q:Nat)(l:List Ex)(hl:l.length≤12)(hlow:Kk (Cv l))(hty:Od σ (Cv l) 1)(hv:y.vers.length≤2∧∀v∈y.vers,v.l.length≤3)(hf:fdH y.vers hn=some h')(hfi:0≤fi∧fi≤1)(hle:(l.length:Int)-fi=h'.ps.length):
    Dz 218 [pv b, .agg (Jl y).toArray, .string hn,vs A l q,iv fi] [box b (jS bc σ (cX x [.string pl,nv n])) 341,box bc (cF F [.string w, .string nE, .string nE,iv 0]) 235,all (lsF Bw A l),ros Gx σ.Af σ.flags,ros Iy σ.Av σ.vars,ros aMb σ.Ap σ.ps,ros Ik y.An y.vers,all (y.vers.flatMap (Vs.kids eX))] (fun v Γ'=>v= .tuple #[]∧Γ'=[box b (jS bc σ (cX x [.string pl,nv n])) 341,box bc (cF F [.string w, .string nE, .string nE,iv 0]) 235]):=by
 refine Am func218 ntmps218 fun w0=>?_
 refine Js (To.g (Jbo fun b6=>?_))
 refine Jz 7 ?_
 refine Jqf (yF y.An y.qn y.vers hn h' om hv.2 hf) (by show owns (y.vers.flatMap (Vs.kids eX))++[]=[];rw[(Hm (k:=Vs.kids eX) (l:=y.vers) fun h _=>Vs.lax eX h).owns];rfl) (ocs (oca 7 rfl) (ocs (oca 8 rfl) (ocn _))) ?_
 rintro _ _ ⟨rfl,rfl⟩
 refine⟨rfl,?_⟩
 refine Jz 3 ?_
 refine Jal fun b10=>?_
 refine Jz 12 ?_
 refine Jcf [3] (Ia bc F w hn 9) ?_
 rintro _ _ ⟨rfl,rfl⟩
 refine Jz 3 ?_
 refine Jfw [] [0,1,2,4,5,6,7,8,12,103,109,10,11,513] (ocn _) ?_
 refine Jz 6 ?_
 refine Fw.f rfl (Gi rfl rfl rfl om) ?_
 refine Jz 5 ?_
 refine Fw.f rfl (Cr (v':= .bool true) (congrArg Value.bool (aEk om)) (Rd.eql rfl rfl rfl)) ?_
 refine Da [0] (Ia bc F w hn 10) ?_
 rintro _ _ ⟨rfl,rfl⟩
 refine⟨ocn _,?_⟩
 refine Jz 5 ?_
 refine Jcf [3,0,2,2,2,2] (Ut b bc F x σ hσ pl n w 1 A q l hl hlow hty) ?_
 rintro _ _ ⟨rfl,rfl⟩
 refine Jn (Iu (Er (Dl (Cu (Co (.inr rfl) results218 ?_)))))
 exact⟨rfl,rfl⟩
theorem SN(b bc:Nat)(F:Fl)(x:Cm)(σ:Scp)(hσ:σ.Low)(pl:ByteArray)(n:Nat)(w:ByteArray)(hF:Ol F)(i:Nat)(hx:F.comps[i]?=some x)(s:St)(hle:s.exprs.length≤4)(hlow:Kk (Cv s.exprs))(hT:StT F x σ s.kind s.name s.hand (Cv s.exprs)):
    Dz 201 [pv b, .agg (Dh s).toArray] [box b (jS bc σ (cX x [.string pl,nv n])) 341,box bc (cF F [.string w, .string nE, .string nE,iv 0]) 235,all (lsF Bw s.A s.exprs),ros Gx σ.Af σ.flags,ros Iy σ.Av σ.vars,ros aMb σ.Ap σ.ps,all (F.kids eX)] (fun v Γ'=>v= .tuple #[]∧Γ'=[box b (jS bc σ (cX x [.string pl,nv n])) 341,box bc (cF F [.string w, .string nE, .string nE,iv 0]) 235]):=by
 obtain⟨j1,j2,j9,je,jb,j6,j7⟩:=hT
 have hFc:=hF.comps
 refine Am func201 ntmps201 fun w0=>?_
 refine Js (To.g (Jbo fun b3=>?_))
 refine Jz 15 ?_
 refine Jcp rfl ?_ ?_<;>intro k9
 refine Js ?_
 obtain⟨t,ht,hch,hte⟩:=j1 om
 refine Jz 4 ?_
 refine Jcf [1,4,4] (Us b bc F x σ hσ pl n s.name t hch) ?_
 rintro _ _ ⟨rfl,rfl⟩
 refine Jz 7 ?_
 refine JgP ?_ ?_<;>intro g17
 refine Jz 11 ?_
 refine Jcf [0,3,3,3,0,0] (Ut b bc F x σ hσ pl n w t s.A s.q s.exprs om hlow hte) ?_
 rintro _ _ ⟨rfl,rfl⟩
 refine Jn (Jbn (Dl (Cu (Co (.inr rfl) results201 ?_))))
 exact⟨rfl,rfl⟩
 refine Jm ?_
 refine Jr (Cr (v':= .bool true) (congrArg Value.bool (aEk om)) (Rd.eql rfl rfl rfl)) ?_
 refine Jz 9 ?_
 refine Jcf [0,3,3,3,0,0] (Ut b bc F x σ hσ pl n w t s.A s.q s.exprs om hlow hte) ?_
 rintro _ _ ⟨rfl,rfl⟩
 refine Jn (Jbn (Dl (Cu (Co (.inr rfl) results201 ?_))))
 exact⟨rfl,rfl⟩
 refine Jz 7 ?_
 refine Jcp rfl ?_ ?_<;>intro k33
 refine Jsp (Jt (Gm (congrArg (fun b=>some (Value.bool b)) (aEk k33)) (Js (Jfw [box b (jS bc σ (cX x [.string pl,nv n])) 341,box b3 (Dh s) 246] [0,1,2,3,4,5,6,9,10,507,8,511] (ocs (oca 1 rfl) (ocs (oca 0 rfl) (ocn _))) ?_))))
 refine Jz 9 ?_
 refine Da [1,4,4] (Us b bc F x σ hσ pl n s.name 3 (j2 om)) ?_
 rintro _ _ ⟨rfl,rfl⟩
 refine⟨ocs (oca 0 rfl) (ocs (oca 3 rfl) (ocn _)),?_⟩
 refine Jz 1 ?_
 refine Da [4] (Ia bc F w s.name 10) ?_
 rintro _ _ ⟨rfl,rfl⟩
 refine⟨ocs (oca 1 rfl) (ocs (oca 4 rfl) (ocn _)),?_⟩
 refine Jz 6 ?_
 refine Jcf [1,0,3,3,0,0] (Ut b bc F x σ hσ pl n w 1 s.A s.q s.exprs om hlow (je om)) ?_
 rintro _ _ ⟨rfl,rfl⟩
 refine Jn (Jbn (Dl (Cu (Co (.inr rfl) results201 ?_))))
 exact⟨rfl,rfl⟩
 refine Jz 5 ?_
 refine Jcp rfl ?_ ?_<;>intro k33_2
 refine Js (Jfw [box b (jS bc σ (cX x [.string pl,nv n])) 341,box b3 (Dh s) 246] [0,1,2,3,4,5,6,9,10,507,8,511] (ocs (oca 1 rfl) (ocs (oca 0 rfl) (ocn _))) ?_)
 refine Jz 9 ?_
 refine Da [1,4,4] (Us b bc F x σ hσ pl n s.name 3 (j2 om)) ?_
 rintro _ _ ⟨rfl,rfl⟩
 refine⟨ocs (oca 0 rfl) (ocs (oca 3 rfl) (ocn _)),?_⟩
 refine Jz 1 ?_
 refine Da [4] (Ia bc F w s.name 10) ?_
 rintro _ _ ⟨rfl,rfl⟩
 refine⟨ocs (oca 1 rfl) (ocs (oca 4 rfl) (ocn _)),?_⟩
 refine Jz 6 ?_
 refine Jcf [1,0,3,3,0,0] (Ut b bc F x σ hσ pl n w 1 s.A s.q s.exprs om hlow (je om)) ?_
 rintro _ _ ⟨rfl,rfl⟩
 refine Jn (Jbn (Dl (Cu (Co (.inr rfl) results201 ?_))))
 exact⟨rfl,rfl⟩
 refine Jz 6 ?_
 refine Jcp rfl ?_ ?_<;>intro k52
 refine Js (Jfw [box b (jS bc σ (cX x [.string pl,nv n])) 341,box b3 (Dh s) 246] [0,1,2,3,4,5,6,9,10,507,8,511] (ocs (oca 1 rfl) (ocs (oca 0 rfl) (ocn _))) ?_)
 refine Jz 9 ?_
 refine Da [1,4,4] (Us b bc F x σ hσ pl n s.name 1 (j9 om)) ?_
 rintro _ _ ⟨rfl,rfl⟩
 refine⟨ocs (oca 0 rfl) (ocs (oca 3 rfl) (ocn _)),?_⟩
 refine Jz 1 ?_
 refine Da [4] (Ia bc F w s.name 10) ?_
 rintro _ _ ⟨rfl,rfl⟩
 refine⟨ocs (oca 1 rfl) (ocs (oca 4 rfl) (ocn _)),?_⟩
 refine Jz 6 ?_
 refine Jcf [1,0,3,3,0,0] (Ut b bc F x σ hσ pl n w 1 s.A s.q s.exprs om hlow (je om)) ?_
 rintro _ _ ⟨rfl,rfl⟩
 refine Jn (Jbn (Dl (Cu (Co (.inr rfl) results201 ?_))))
 exact⟨rfl,rfl⟩
 refine Jz 7 ?_
 refine Jcp rfl ?_ ?_<;>intro k70
 refine Jsp (Jt (Gm (congrArg (fun b=>some (Value.bool b)) (aEk k70)) (Jz 4 ?_)))
 refine Jcf [1,1,1,1,1,1] (Ut b bc F x σ hσ pl n w 2 s.A s.q s.exprs om hlow (jb om)) ?_
 rintro _ _ ⟨rfl,rfl⟩
 refine Jn (Jbn (Dl (Cu (Co (.inr rfl) results201 ?_))))
 exact⟨rfl,rfl⟩
 refine Jz 5 ?_
 refine Jcp rfl ?_ ?_<;>intro k70_2
 refine Jz 4 ?_
 refine Jcf [1,1,1,1,1,1] (Ut b bc F x σ hσ pl n w 2 s.A s.q s.exprs om hlow (jb om)) ?_
 rintro _ _ ⟨rfl,rfl⟩
 refine Jn (Jbn (Dl (Cu (Co (.inr rfl) results201 ?_))))
 exact⟨rfl,rfl⟩
 refine Jz 6 ?_
 refine Jcp rfl ?_ ?_<;>intro k77
 refine Js ?_
 obtain⟨c,h',hfc,hh',hhl⟩:=j6 om
 obtain⟨ic,hic⟩:=aFt (List.mem_of_find?_eq_some hfc)
 have hcv:c.vers.length≤2∧∀v∈c.vers,v.l.length≤3:=⟨(hF.comp c (mog hic)).vers2,fun v hv=>((hF.comp c (mog hic)).ver v hv).1⟩
 refine To.one 7 rfl (ros Jl F.Ac F.comps) rfl (Jc (k:=eX)) (Jfw [] [0,1,2,8,103,4,5,6,107,109,310,11,12,13,214,15515,16] (ocn _) ?_)
 refine Jz 10 ?_
 refine Fw.qf (kD F.Ac F.qc F.comps s.name c om hfc) (ocs (oca 0 rfl) (ocn _)) ?_
 refine Jz 3 ?_
 refine Fw.mk rfl rfl rfl rfl rfl (Mk.alloc rfl aAi) ?_
 rintro _ _ ⟨b5,rfl,rfl⟩
 refine Fw.up rfl rfl rfl (Bl (i:=0) rfl rfl rfl JR rfl rfl rfl (bta rfl)) (ocn _) ?_
 refine Jz 4 ?_
 refine Jfw [] [0,1,2,4,5,103,106,507] (ocn _) ?_
 refine Jz 7 ?_
 refine Da [4] (Ia bc F w s.name 9) ?_
 rintro _ _ ⟨rfl,rfl⟩
 refine⟨ocn _,?_⟩
 refine Jz 2 ?_
 refine Db 9 rfl (c.kids eX) (Cm.lax eX c) (Fj hic) (To.one 0 rfl (ros Ik c.An c.vers) rfl (Lm (k:=eX)) (Db 1 rfl (c.vers.flatMap (Vs.kids eX)) (Hm fun h _=>Vs.lax eX h) (fun z hz=>aEb _ (aEb _ hz)) (Jz 7 ?_)))
 refine Jcf [7,3,6,6,6,6,1,0] (BR b bc F x σ hσ pl n w c s.hand h' 0 s.A s.q s.exprs om hlow (je om) hcv hh' (by decide) (by rw[Bz,aEg]at hhl;omega)) ?_
 rintro _ _ ⟨rfl,rfl⟩
 refine Jn (Jbn (Lj (Iu (Er (Dl (Cu (Co (.inr rfl) results201 ?_)))))))
 exact⟨rfl,rfl⟩
 refine Jz 6 ?_
 refine Jcp rfl ?_ ?_<;>intro k108
 obtain⟨h',hh',hhl⟩:=j7 om
 have hxv:x.vers.length≤2∧∀v∈x.vers,v.l.length≤3:=⟨(hF.comp x (mog hx)).vers2,fun v hv=>((hF.comp x (mog hx)).ver v hv).1⟩
 refine Db 7 rfl (x.kids eX) (Cm.lax eX x) (Fj hx) (To.one 0 rfl (ros Ik x.An x.vers) rfl (Lm (k:=eX)) (Db 1 rfl (x.vers.flatMap (Vs.kids eX)) (Hm fun h _=>Vs.lax eX h) (fun z hz=>aEb _ (aEb _ hz)) (Jfw [] [0,1,2,3,5,7,104,106,108,509] (ocn _) ?_)))
 refine Jz 6 ?_
 refine Fw.r rfl (Ij (i:=4) (us:=(cX x [])) rfl rfl JR rfl (Fh (n:=3) rfl) rfl) ?_
 refine Jz 2 ?_
 refine Da [4,4,4,4,4,4,1,0] (BR b bc F x σ hσ pl n w x s.hand h' 1 s.A s.q s.exprs om hlow (je om) hxv hh' (by decide) (by rw[Bz,aEg]at hhl;omega)) ?_
 rintro _ _ ⟨rfl,rfl⟩
 refine⟨ocn _,?_⟩
 refine Jz 2 ?_
 refine Er (Dl (Cu (Co (.inr rfl) results201 ?_)))
 exact⟨rfl,rfl⟩
 refine Jz 6 ?_
 refine Jcp rfl ?_ ?_<;>intro k120
 refine Jz 4 ?_
 refine Jcf [1,1,1,1,1,1] (Ut b bc F x σ hσ pl n w 1 s.A s.q s.exprs om hlow (je om)) ?_
 rintro _ _ ⟨rfl,rfl⟩
 refine Jn (Jbn (Dl (Cu (Co (.inr rfl) results201 ?_))))
 exact⟨rfl,rfl⟩
 refine Jz 2 ?_
 refine Xp (Lj (Iu (Er (Dl (Du (Co (.inr rfl) results201 ?_))))))
 exact⟨rfl,rfl⟩
theorem yH(b bc:Nat)(F:Fl)(x:Cm)(σ:Scp)(hσ:σ.Low)(pl:ByteArray)(hpl:pl.size≤100)(hF:Ol F)(i:Nat)(hx:F.comps[i]?=some x)(l:List St)(ih:∀s∈l,(∀(A:OA) (q n:Nat) (w:ByteArray),s.thn.length≤12→Dy (Ba s.thn)→Li F x σ (Ba s.thn)→n+Ca (Ba s.thn)≤1000→Dz 182 [pv b,vs A s.thn q] [box b (jS bc σ (cX x [.string pl,nv n])) 341,box bc (cF F [.string w, .string nE, .string nE,iv 0]) 235,all (lsG Bw Dh A s.thn),ros Gx σ.Af σ.flags,ros Iy σ.Av σ.vars,ros aMb σ.Ap σ.ps,all (F.kids eX),p10c] (fun v Γ'=>∃w':ByteArray,v= .tuple #[]∧Γ'=[box b (jS bc σ (cX x [.string pl,nv ((n+Ca (Ba s.thn)))])) 341,box bc (cF F [.string w', .string nE, .string nE,iv 0]) 235]))∧(∀(A:OA) (q n:Nat) (w:ByteArray),s.els.length≤12→Dy (Ba s.els)→Li F x σ (Ba s.els)→n+Ca (Ba s.els)≤1000→Dz 182 [pv b,vs A s.els q] [box b (jS bc σ (cX x [.string pl,nv n])) 341,box bc (cF F [.string w, .string nE, .string nE,iv 0]) 235,all (lsG Bw Dh A s.els),ros Gx σ.Af σ.flags,ros Iy σ.Av σ.vars,ros aMb σ.Ap σ.ps,all (F.kids eX),p10c] (fun v Γ'=>∃w':ByteArray,v= .tuple #[]∧Γ'=[box b (jS bc σ (cX x [.string pl,nv ((n+Ca (Ba s.els)))])) 341,box bc (cF F [.string w', .string nE, .string nE,iv 0]) 235])))(A:OA)(q n:Nat)(w:ByteArray)(hl:l.length≤12)(hlow:Dy (Ba l))(hty:Li F x σ (Ba l))(hb:n+Ca (Ba l)≤1000):
    Dz 182 [pv b,vs A l q] [box b (jS bc σ (cX x [.string pl,nv n])) 341,box bc (cF F [.string w, .string nE, .string nE,iv 0]) 235,all (lsG Bw Dh A l),ros Gx σ.Af σ.flags,ros Iy σ.Av σ.vars,ros aMb σ.Ap σ.ps,all (F.kids eX),p10c] (fun v Γ'=>∃w':ByteArray,v= .tuple #[]∧Γ'=[box b (jS bc σ (cX x [.string pl,nv ((n+Ca (Ba l)))])) 341,box bc (cF F [.string w', .string nE, .string nE,iv 0]) 235]):=by
 refine Am func182 ntmps182 fun w0=>?_
 refine Js (To.one 2 rfl (ros Dh A l) rfl (aEd ..) (Jz 7 ?_))
 refine Cw (fun s g mz ρ Γ=>∃(m:Nat) (ww:ByteArray) (k:Nat),ρ=[s 0,s 6,s 7,(8,nv k)]∧Γ=[box b (jS bc σ (cX x [.string pl,nv m])) 341,box bc (cF F [.string ww, .string nE, .string nE,iv 0]) 235,g 0,g 3,g 4,g 5,g 6,g 7,p10c]∧mz=l.length-k∧(k≤l.length)∧(m=n+Ca (Ba (l.take k)))) ⟨⟨n,w,0,rfl,rfl,rfl,om,rfl⟩,sb⟩ ?_
 rintro mz _ _ ⟨m,ww,k,rfl,rfl,rfl,hk,hm⟩
 refine Jz 6 ?_
 refine Jcp rfl ?_ ?_<;>intro k9
 obtain⟨s,hs⟩:=exg l k om
 obtain⟨hsk,⟨hse,hsl⟩,⟨hst,hstl⟩,hsn,hsnl⟩:=Qg (Oc hlow (mog hs))
 have hsT:=uM (nI hty (mog hs))
 have hsm:s.pure∈Ba l:=by rw[Je];exact aEv.2 ⟨s,mog hs,rfl⟩
 have htk:Ba (l.take (k+1))=Ba (l.take k)++[s.pure]:=by rw[Cf hs,Je,aEq,←Je];rfl
 have hsc:PS.cnt s.pure=1+Ca (Ba s.thn)+Ca (Ba s.els):=by rw[Nh s];rfl
 have hcs:Ca (Ba (l.take (k+1)))=Ca (Ba (l.take k))+PS.cnt s.pure:=by rw[htk,Qs];show _+(PS.cnt s.pure+0)=_;omega
 have hall:Ca (Ba (l.take (k+1)))≤Ca (Ba l):=by
  have h1:Ba l=Ba (l.take (k+1))++Ba (l.drop (k+1)):=by rw[Je,Je,Je,←aEq,aFs]
  rw[h1,Qs];omega
 refine Jz 8 ?_
 refine Jal fun b5=>?_
 refine Jz 5 ?_
 refine Jfw [] [0,1,2,4,5,6,8,9,10,111,312,103,107,13,514,15] (ocn _) ?_
 refine Jz 10 ?_
 refine Fw.qf (itoa_fn ((m:Nat):Int) om om) (ocs (oca 9 rfl) (ocn _)) ?_
 refine Jz 2 ?_
 refine Fw.f rfl (Io (a:=pl) (b:=(BA (Lib.itoa ((m:Nat):Int)))) rfl rfl rfl (by rw[BA_size];have:=itoa_len (n:=((m:Nat):Int)) om om;omega)) ?_
 refine Da [2] (nD bc F ww (pl++(BA (Lib.itoa ((m:Nat):Int))))) ?_
 rintro _ _ ⟨rfl,rfl⟩
 refine⟨ocn _,?_⟩
 refine Jz 19 ?_
 refine Db 4 rfl (lsG Bw Dh s.Ae s.els) (Dx _ _ _ _) (fun c hc=>Kw hs c (Ji s c hc)) (Db 5 rfl (lsG Bw Dh s.At s.thn) (Dx _ _ _ _) (fun c hc=>Kw hs c (Kj s c hc)) (Db 6 rfl (lsF Bw s.A s.exprs) (Ma _ _ _) (fun c hc=>Kw hs c (Ll s c hc)) (Px 10 rfl rfl (Px 10 rfl rfl (Px 10 rfl rfl (Db 14 rfl (F.kids eX) (Fl.lax eX F) (fun c hc=>hc) (Jz 3 ?_)))))))
 refine Jcf [9,7,4,1,1,1,0] (SN b bc F x σ hσ pl (m+1) (pl++(BA (Lib.itoa ((m:Nat):Int)))) hF i hx s hse hsl hsT.1) ?_
 rintro _ _ ⟨rfl,rfl⟩
 refine Jz 3 ?_
 refine Px 9 rfl rfl (Px 9 rfl rfl (Px 9 rfl rfl (Db 13 rfl (F.kids eX) (Fl.lax eX F) (fun c hc=>hc) (Px 15 rfl rfl (Jz 4 ?_)))))
 refine Jcf [5,5,5,2,2,2,1,0] ((ih s (mog hs)).1 s.At s.qt (m+1) (pl++(BA (Lib.itoa ((m:Nat):Int)))) hst hstl hsT.2.1 om) ?_
 rintro _ _ ⟨w2,rfl,rfl⟩
 refine Jn (Jt (Px 8 rfl rfl (Px 8 rfl rfl (Px 8 rfl rfl (Db 12 rfl (F.kids eX) (Fl.lax eX F) (fun c hc=>hc) (Px 14 rfl rfl (Jz 4 ?_)))))))
 refine Jcf [5,5,5,2,2,2,1,0] ((ih s (mog hs)).2 s.Ae s.qe (m+1+Ca (Ba s.thn)) w2 hsn hsnl hsT.2.2 om) ?_
 rintro _ _ ⟨w2_2,rfl,rfl⟩
 refine Jz 8 ?_
 refine Cg ⟨⟨((m+1+Ca (Ba s.thn))+Ca (Ba s.els)),w2_2,k+1,rfl,rfl,rfl,om,(by rw[hcs,hsc];omega)⟩,sb⟩
 refine Jz 4 ?_
 refine Kt (Xp (Lj (Iu (Er (Dl (Cu (Co (.inr rfl) results182 ?_)))))))
 obtain rfl:k=l.length:=om
 rw[hm,List.take_length];exact⟨_,rfl,rfl⟩
theorem kG(b bc:Nat)(F:Fl)(x:Cm)(σ:Scp)(hσ:σ.Low)(pl:ByteArray)(hpl:pl.size≤100)(hF:Ol F)(i:Nat)(hx:F.comps[i]?=some x):∀l:List St,∀(A:OA) (q n:Nat) (w:ByteArray),l.length≤12→Dy (Ba l)→Li F x σ (Ba l)→n+Ca (Ba l)≤1000→Dz 182 [pv b,vs A l q] [box b (jS bc σ (cX x [.string pl,nv n])) 341,box bc (cF F [.string w, .string nE, .string nE,iv 0]) 235,all (lsG Bw Dh A l),ros Gx σ.Af σ.flags,ros Iy σ.Av σ.vars,ros aMb σ.Ap σ.ps,all (F.kids eX),p10c] (fun v Γ'=>∃w':ByteArray,v= .tuple #[]∧Γ'=[box b (jS bc σ (cX x [.string pl,nv ((n+Ca (Ba l)))])) 341,box bc (cF F [.string w', .string nE, .string nE,iv 0]) 235])
 |l,A,q,n,w,h1,h2,h3,h4=>yH b bc F x σ hσ pl hpl hF i hx l (fun s hs=>⟨kG b bc F x σ hσ pl hpl hF i hx s.thn,kG b bc F x σ hσ pl hpl hF i hx s.els⟩) A q n w h1 h2 h3 h4
termination_by l=>SizeOf.sizeOf l
decreasing_by
 all_goals
  have h:=aFq hs
  have:SizeOf.sizeOf s.thn<SizeOf.sizeOf s∧SizeOf.sizeOf s.els<SizeOf.sizeOf s:=by cases s;simp only[St.mk.sizeOf_spec];omega
  omega
theorem Om{s:ByteArray}(h:Qt s):s.size≤6:=by
 obtain⟨t,ht,rfl⟩:=h
 have h1:Tu.all (fun t=>decide (t.length≤6))=true:=rfl
 have h2:t.length≤6:=by simpa using aGg.1 h1 t ht
 show(t.map UInt8.ofNat).toArray.size≤6
 rw[List.size_toArray,aEg];exact h2
def Dis{α:Type}(f:α→ByteArray)(l:List α):Prop:=∀k x,l[k]?=some x→∀y∈l.take k,f y≠f x
theorem Dis.of{α:Type}{f:α→ByteArray}{l:List α}(h:∀(i j:Nat) (x y:α),i<j→l[i]?=some x→l[j]?=some y→f x≠f y):Dis f l:=fun k x hx y hy=>by
 obtain⟨i,hi⟩:=aFt hy
 have hik:i<k:=by have:=(aEc.1 hi).1;rw[aEe]at this;omega
 exact h i k y x hik (by rw[aGk hik]at hi;exact hi) hx
theorem Dis.ix{α:Type}{f:α→ByteArray}{l:List α}(h:Dis f l){k:Nat}{x:α}(hx:l[k]?=some x):ixF (f x) 0 ((l.take k).map f)=none:=Kv fun hm=>by
 obtain⟨y,hy,e⟩:=aEv.1 hm
 exact h k x hx y hy e
theorem Dis.fd{α:Type}{f:α→ByteArray}{l:List α}(h:Dis f l){k:Nat}{x:α}(hx:l[k]?=some x):(l.take k).find? (fun y:α=>decide (f y=f x))=none:=List.find?_eq_none.2 fun y hy=>by simpa using h k x hx y hy
theorem Dis.fs{α:Type}{f:α→ByteArray}{l:List α}(h:Dis f l){k:Nat}{x:α}(hx:l[k]?=some x):l.find? (fun y:α=>decide (f y=f x))=some x:=by
 have h1:=h.fd hx
 obtain⟨hk,he⟩:=aEc.1 hx
 rw[←aFs k l,List.find?_append,h1,Option.none_or,aGb hk,he,List.find?_cons_of_pos (by simp)]
theorem BS{α:Type}{f:α→ByteArray}{l:List α}{c n:Nat}(hc:c<256)(hn:n<200)(h:l.map f=Go.Proofs.YtlihklladkagpaaGreatDoor.nms c n):Dis f l:=Dis.of fun i j x y hij hx hy e=>by
 have hln:l.length=n:=by rw[←aEg (f:=f),h,Dq]
 have hj:=(aEc.1 hy).1
 have g:∀i x,l[i]?=some x→f x=nm c i:=fun i x hx=>by
  have hi:=(aEc.1 hx).1
  have h1:(l.map f)[i]?=some (f x):=by rw[aEp,hx];rfl
  rw[h,Ea om]at h1
  exact(aEn h1).symm
 rw[g i x hx,g j y hy]at e
 have:=(Qd hc hc om om e).2
 omega
def SQ:List ByteArray→Bool
 |[]=>true
 |s::r=>decide (s∉r)&&SQ r
theorem BU{α:Type}{f:α→ByteArray}:∀{l:List α},SQ (l.map f)=true→∀(i j:Nat) (x y:α),i<j→l[i]?=some x→l[j]?=some y→f x≠f y
 |[],_,i,j,x,y,_,h,_=>by simp at h
 | a ::r,h,i,j,x,y,hij,hx,hy=>by
   obtain⟨h1,h2⟩:=(aFd _ _).mp (show(decide (f a∉r.map f)&&SQ (r.map f))=true from h)
   obtain⟨j,rfl⟩:∃k,j=k+1:=⟨j-1,by omega⟩
   have hy:r[j]?=some y:=by simpa using hy
   cases i with
   | zero=>
     have hx:a=x:=by simpa using hx
     intro e
     exact aGc h1 (by rw[hx,e];exact aEv.2 ⟨y,mog hy,rfl⟩)
   |succ i=>exact BU h2 i j x y om (by simpa using hx) hy
theorem MO:∀a<4,∀b<2,SQ ((varsOf a b).map Vr.name)=true:=by decide+kernel
theorem XU:∀a<4,∀b<2,∀k<a,(fdV (varsOf a b) (nm 120 k)).map Vr.ty=some 1:=by decide+kernel
theorem XV:∀a<4,∀b<2,(fdV (varsOf a b) nB0).map Vr.ty=some 2:=by decide+kernel
theorem XW:∀a<4,(fdV (varsOf a 1) nT0).map Vr.ty=some 3:=by decide+kernel
theorem XX:∀a<4,∀b<2,∀k<2,(fdV (varsOf a b) (nm 102 k)).isNone=true:=by decide+kernel
theorem XY:∀a<4,∀b<2,∀k<2,(fdV (varsOf a b) (nm 112 k)).isNone=true:=by decide+kernel
theorem SS:∀a<4,∀b<2,∀n<3,(varsOf a b).all (fun v=>decide (v.name∉nms 102 n))=true:=by decide+kernel
theorem SV:∀i<3,∀n<3,nC i∉nms 102 n:=by decide+kernel
section
variable{F:Fl}{x:Cm}{ct:Ct}{ar:List Nat}{i np:Nat}{σ:Scp}
structure Sa(F:Fl)(x:Cm)(ct:Ct)(np:Nat)(σ:Scp):Prop where
 ok:ct.Ok
 n2:np≤2
 fl:σ.flags.map Fg.name=nms 102 ct.flags
 vs:σ.vars=varsOf ct.ints ct.tables
 ps:σ.ps=nms 112 np
 to:∀(k:Nat) (a:List Nat) (h n:Nat),ct.ars[k]?=some a→a[h]?=some n→∃c h',fdC F.comps (nC k)=some c∧fdH c.vers (nm 104 h)=some h'∧n=h'.ps.length
 me:∀(a:List Nat) (h n:Nat),ct.ars[ct.own]?=some a→a[h]?=some n→∃h',fdH x.vers (nm 104 h)=some h'∧n=h'.ps.length
theorem Sa.pn(h:Sa F x ct np σ){c k:Nat}(hc:c<256)(hk:k<200)(hne:112≠c):(ixF (nm c k) 0 σ.ps).isSome=false:=by
 have:=h.n2
 rw[h.ps,Kv (Rc (by decide) hc om hk hne)];rfl
theorem Sa.chx(h:Sa F x ct np σ){k:Nat}(hk:k<ct.ints):σ.Ch (nm 120 k) 1:=by
 have hi:=h.ok.ints;have ht:=h.ok.tables
 have h1:=XU ct.ints om ct.tables om k hk
 rw[←h.vs]at h1
 obtain⟨v,hv,e⟩:=aFg.1 h1
 exact⟨h.pn (by decide) om (by decide),v,hv,e⟩
theorem Sa.chb(h:Sa F x ct np σ):σ.Ch nB0 2:=by
 have hi:=h.ok.ints;have ht:=h.ok.tables
 have h1:=XV ct.ints om ct.tables om
 rw[←h.vs]at h1
 obtain⟨v,hv,e⟩:=aFg.1 h1
 exact⟨h.pn (c:=98) (k:=0) (by decide) (by decide) (by decide),v,hv,e⟩
theorem Sa.cht(h:Sa F x ct np σ)(h0:0<ct.tables):σ.Ch nT0 3:=by
 have hi:=h.ok.ints;have ht:=h.ok.tables
 have h1:=XW ct.ints om
 rw[show(1:Nat)=ct.tables by omega,←h.vs]at h1
 obtain⟨v,hv,e⟩:=aFg.1 h1
 exact⟨h.pn (c:=116) (k:=0) (by decide) (by decide) (by decide),v,hv,e⟩
theorem Scp.Ch.nm{s:ByteArray}{t:Nat}(h:σ.Ch s t)(ht:t≠3):σ.Nm s t:=by
 obtain⟨h1,v,h2,h3⟩:=h
 exact .inr (.inl ⟨h1,v,h2,by rw[h3];exact ht,h3.symm⟩)
theorem Sa.nmp(h:Sa F x ct np σ){k:Nat}(hk:k<np):σ.Nm (nm 112 k) 1:=by
 have:=h.n2
 refine .inl ⟨?_,rfl⟩
 rw[h.ps,Tg (by decide) om hk 0];rfl
theorem Sa.nmf(h:Sa F x ct np σ){k:Nat}(hk:k<ct.flags):σ.Nm (nm 102 k) 2:=by
 have hi:=h.ok.ints;have ht:=h.ok.tables;have hf:=h.ok.flags
 have h1:=XX ct.ints om ct.tables om k om
 rw[←h.vs]at h1
 refine .inr (.inr ⟨h.pn (by decide) om (by decide),Option.isNone_iff_eq_none.1 h1,?_,rfl⟩)
 rw[h.fl,Tg (by decide) om hk 0];rfl
theorem ty0{σ:Scp}{o:Nat}{s:ByteArray}{n:Int}{t:Nat}(ho:OpT σ o s 0 t):PE.Ty σ ⟨o,s,n,[]⟩ t:=⟨0,trivial,fun _=>rfl,ho⟩
theorem ty1{σ:Scp}{o:Nat}{s:ByteArray}{n:Int}{u t:Nat}{a:PE}(ha:a.Ty σ u)(ho:OpT σ o s u t):PE.Ty σ ⟨o,s,n,[a]⟩ t:=⟨u,⟨ha,trivial⟩,fun h=>absurd h (show¬1=0 by decide),ho⟩
theorem ty2{σ:Scp}{o:Nat}{s:ByteArray}{n:Int}{u t:Nat}{a b:PE}(ha:a.Ty σ u)(hb:b.Ty σ u)(ho:OpT σ o s u t):PE.Ty σ ⟨o,s,n,[a,b]⟩ t:=⟨u,⟨ha,hb,trivial⟩,fun h=>absurd h (by show¬2=0;decide),ho⟩
theorem Kh.ty(h:Sa F x ct np σ){d:Nat}{e:PE}(he:Kh ct np d e):e.Ty σ 1:=by
 induction he with
 |num d n hn=>exact ty0 ⟨by omega,by omega,by omega⟩
 |var d k hk=>exact ty0 ⟨by omega,fun _=>(h.chx hk).nm (by decide),by omega⟩
 |par d k hk=>exact ty0 ⟨by omega,fun _=>h.nmp hk,by omega⟩
 |now d=>exact ty0 ⟨by omega,by omega,by omega⟩
 |get d e ht he ih=>exact ty1 ih ⟨by omega,by omega,fun _=>h.cht ht⟩
 |size d ht=>exact ty0 ⟨by omega,by omega,fun _=>h.cht ht⟩
 |neg d e he ih=>exact ty1 ih ⟨by omega,by omega,by omega⟩
 |bin d op a b ho ha hb iha ihb=>exact ty2 iha ihb ⟨by omega,by omega,by omega⟩
theorem Pj.ty(h:Sa F x ct np σ){d:Nat}{e:PE}(he:Pj ct np d e):e.Ty σ 2:=by
 induction he with
 |tf d op ho=>exact ty0 ⟨by omega,by omega,by omega⟩
 |b0 d=>exact ty0 ⟨by omega,fun _=>h.chb.nm (by decide),by omega⟩
 |flag d k hk=>exact ty0 ⟨by omega,fun _=>h.nmf hk,by omega⟩
 |has d e ht he=>exact ty1 (he.ty h) ⟨by omega,by omega,fun _=>h.cht ht⟩
 |not d e he ih=>exact ty1 ih ⟨by omega,by omega,by omega⟩
 |two d op a b ho ha hb iha ihb=>exact ty2 iha ihb ⟨by omega,by omega,by omega⟩
 |cmp d op a b ho ha hb=>exact ty2 (ha.ty h) (hb.ty h) ⟨by omega,by omega,by omega⟩
theorem FV{σ:Scp}{u:Nat}{a:PE}(h:a.Ty σ u):Od σ [a] u:=⟨h,trivial⟩
theorem aBt{σ:Scp}{u:Nat}{a b:PE}(h:a.Ty σ u)(k:b.Ty σ u):Od σ [a,b] u:=⟨h,k,trivial⟩
theorem StE.ty(h:Sa F x ct np σ){d:Nat}{s:PS}(hs:StE ct np d s):s.Ty F x σ:=by
 induction hs with
 |setB d e he=>exact⟨⟨fun _=>⟨2, .inr rfl,h.chb,FV (he.ty h)⟩,by omega,by omega,by omega,by omega,by omega,by omega⟩,trivial,trivial⟩
 |setX d k e hk he=>exact⟨⟨fun _=>⟨1, .inl rfl,h.chx hk,FV (he.ty h)⟩,by omega,by omega,by omega,by omega,by omega,by omega⟩,trivial,trivial⟩
 |put d a b ht ha hb=>exact⟨⟨by omega,fun _=>h.cht ht,by omega,fun _=>aBt (ha.ty h) (hb.ty h),by omega,by omega,by omega⟩,trivial,trivial⟩
 |del d a ht ha=>exact⟨⟨by omega,fun _=>h.cht ht,by omega,fun _=>FV (ha.ty h),by omega,by omega,by omega⟩,trivial,trivial⟩
 |ife d e t l he ht hl iht ihl=>exact⟨⟨by omega,by omega,by omega,by omega,fun _=>FV (he.ty h),by omega,by omega⟩,Qi iht,Qi ihl⟩
 |whl d e t he ht iht=>exact⟨⟨by omega,by omega,by omega,by omega,fun _=>FV (he.ty h),by omega,by omega⟩,Qi iht,trivial⟩
 |send d to k a l ha hh hl=>exact⟨⟨by omega,by omega,by omega,fun _=>bW fun e he=>(hl e he).ty h,by omega,fun _=>h.to to a k _ ha hh,by omega⟩,trivial,trivial⟩
 | after d k a e l ha hh he hl=>
   refine⟨⟨by omega,by omega,by omega,fun _=>⟨he.ty h,bW fun e he=>(hl e he).ty h⟩,by omega,by omega,fun _=>?_⟩,trivial,trivial⟩
   obtain⟨h',h1,h2⟩:=h.me a k _ ha hh
   exact⟨h',h1,by rw[lc1,h2]⟩
 |store d a b l ha hb hl ihl=>exact⟨⟨by omega,by omega,by omega,fun _=>aBt (ha.ty h) (hb.ty h),by omega,by omega,by omega⟩,trivial,Qi ihl⟩
 |fetch d k e l hk he hl ihl=>exact⟨⟨by omega,by omega,fun _=>h.chx hk,fun _=>FV (he.ty h),by omega,by omega,by omega⟩,trivial,Qi ihl⟩
 |stop d=>exact⟨⟨by omega,by omega,by omega,by omega,by omega,by omega,by omega⟩,trivial,trivial⟩
end
structure TyH(F:Fl)(x:Cm)(h:Hd):Prop where
 ps:∀k p,h.ps[k]?=some p→fdV x.vars p=none∧ixF p 0 (F.flags.map Fg.name)=none∧ixF p 0 (h.ps.take k)=none
 body:Li F x ⟨F.Af,F.qf,F.flags,x.Av,x.qv,x.vars,h.Ap,h.qp,h.ps⟩ (Ba h.body)
structure TyC(F:Fl)(i:Nat)(x:Cm):Prop where
 new:fdC (F.comps.take i) x.name=none
 nfl:ixF x.name 0 (F.flags.map Fg.name)=none
 var:∀k v,x.vars[k]?=some v→fdV (x.vars.take k) v.name=none∧ixF v.name 0 (F.flags.map Fg.name)=none
 hd:∀n v,x.vers[n]?=some v→∀k h,v.l[k]?=some h→(v.l.take k).find? (fun y:Hd=>decide (y.name=h.name))=none∧(∀h',fdH (x.vers.take n) h.name=some h'→h'.ps.length=h.ps.length)∧TyH F x h
structure TyF(F:Fl):Prop where
 fl:∀k z,F.flags[k]?=some z→ixF z.name 0 ((F.flags.take k).map Fg.name)=none
 lk:∀z∈F.links,(∃c,fdC F.comps z.src=some c)∧∃c,fdC F.comps z.dst=some c
 ln:∀k z,F.links[k]?=some z→∀y∈F.links.take k,¬(y.src=z.src∧y.dst=z.dst)
 comp:∀i c,F.comps[i]?=some c→TyC F i c
theorem uO{F:Fl}{x:Cm}{ct:Ct}{ar:List Nat}{i:Nat}(ok:OkC F.pure i x.pure ct ar){h:Hd}{s:ByteArray}{l:List Vs}(hl:∀v∈l,v∈x.vers)(hf:fdH l s=some h):∃k np,s=nm 104 k∧k<3∧ar[k]?=some np∧h.ps=nms 112 np:=by
 have hn:h.name=s:=by simpa using List.find?_some hf
 obtain⟨v,hv,hm⟩:=aEy.1 (List.mem_of_find?_eq_some hf)
 obtain⟨k,hk⟩:=aFt hm
 have gv:=ok.vers v.pure (aEv.2 ⟨v,hl v hv,rfl⟩)
 have gh:=gv.2.2 k h.pure (by show(v.l.map Hd.pure)[k]?=_;rw[aEp,hk];rfl)
 obtain⟨np,h1,h2,_⟩:=gh.ps
 have h3:h.name=nm 104 k:=gh.name
 have har:=ok.ok.each ar (mog ok.arr)
 have:=(aEc.1 h1).1
 exact⟨k,np,by rw[←hn,h3],by omega,h1,h2⟩
theorem MP{F:Fl}{x:Cm}{ct:Ct}{ar:List Nat}{i:Nat}(ok:OkC F.pure i x.pure ct ar)(hx:∃v∈x.pure.vers,v.length=ar.length){k n:Nat}(hk:ar[k]?=some n):∃h',fdH x.vers (nm 104 k)=some h'∧n=h'.ps.length:=by
 obtain⟨v,hv,hvl⟩:=hx
 obtain⟨v,hv2,rfl⟩:=aEv.1 (show v∈x.vers.map Vs.pure from hv)
 have hkl:=(aEc.1 hk).1
 have hpl:v.pure.length=v.l.length:=aEg ..
 have gv:=ok.vers v.pure hv
 have hh:v.l[k]?=some (v.l[k]'om):=gge _
 have gh:=gv.2.2 k _ (by show(v.l.map Hd.pure)[k]?=_;rw[aEp,hh];rfl)
 have hsome:(fdH x.vers (nm 104 k)).isSome=true:=by
  unfold fdH
  rw[List.find?_isSome]
  exact⟨_,aEy.2 ⟨v,hv2,mog hh⟩,aEk gh.name⟩
 obtain⟨h',hf⟩:=Option.isSome_iff_exists.1 hsome
 obtain⟨j,np,e,hj,h1,h2⟩:=uO ok (fun _ h=>h) hf
 have har:=ok.ok.each ar (mog ok.arr)
 have e2:=(Qd (by decide) (by decide) om om e).2
 subst e2
 rw[hk]at h1
 exact⟨h',hf,by rw[h2,Dq];exact aEn h1⟩
theorem Ku.okA{f:PF}(h:Ku f):∃ars,tT ars∧f.comps.length=ars.length∧∀i c,f.comps[i]?=some c→∃ct ar,OkC f i c ct ar∧ct.ars=ars∧∃v∈c.vers,v.length=ar.length:=by
 obtain⟨ars,ho,hl,hg⟩:=h.comps
 refine⟨ars,ho,hl,fun i c hc=>?_⟩
 have g:=hg i c hc
 obtain⟨ints,tables,ar,hi,ht,ha,hv,hvs,hvn,hx⟩:=g.vers
 obtain⟨ar',ha',hn⟩:=g.hnames ho
 have:ar'=ar:=by rw[ha]at ha';exact(aEn ha').symm
 subst this
 refine⟨⟨ints,tables,f.flags.length,i,ars⟩,ar',⟨⟨hi,ht,h.flags.1,(aEc.1 ha).1,ho.1.2,ho.2⟩,rfl,ha,h.flags.2,hv,g.name,hvs,hn,fun to a x n h1 h2=>?_,fun to hto=>?_,fun to a h1=>?_⟩,rfl,hx⟩
 · have h7:to<ars.length:=(aEc.1 h1).1
   have h8:=ho.1.2
   exact jO ho h1 h2 f.comps 0 om om om fun j c hj=>by rw[aFl];exact hg j c hj
 · have hto:to<ars.length:=hto
   exact uC h om
 · have hlt:to<f.comps.length:=by rw[hl];exact(aEc.1 h1).1
   obtain⟨a2,hb,hn2⟩:=(hg to _ (gge hlt)).hnames ho
   rw[aEp,gge hlt]
   rw[h1]at hb
   rw[aEn hb]
   exact congrArg some hn2
theorem tyF{F:Fl}(h:Ku F.pure):TyF F:=by
 obtain⟨ars,ho,hl,hA⟩:=h.okA
 have hcl:F.comps.length=ars.length:=by have h1:(F.comps.map Cm.pure).length=ars.length:=hl;rwa[aEg]at h1
 have hpi:∀(i:Nat) (c:Cm),F.comps[i]?=some c→F.pure.comps[i]?=some c.pure:=fun i c hc=>by
  show(F.comps.map Cm.pure)[i]?=_
  rw[aEp,hc];rfl
 have hnc:∀(i:Nat) (c:Cm),F.comps[i]?=some c→c.name=nC i:=fun i c hc=>by
  obtain⟨_,_,ok,_⟩:=hA i _ (hpi i c hc)
  exact ok.name
 have h3:=ho.1.2
 have hdc:Dis Cm.name F.comps:=Dis.of fun i j x y hij hx hy e=>by
  have hj:=(aEc.1 hy).1
  rw[hnc i x hx,hnc j y hy]at e
  have:=jN om om e
  omega
 have hfl:F.flags.map Fg.name=nms 102 F.flags.length:=h.flags.2
 have hf2:F.flags.length≤2:=h.flags.1
 have hdf:Dis Fg.name F.flags:=BS (by decide) om hfl
 have hto:∀i,i<F.comps.length→∃c,F.comps[i]?=some c∧fdC F.comps (nC i)=some c:=fun i hi=>by
  have hc:=gge hi
  refine⟨_,hc,?_⟩
  rw[←hnc i _ hc]
  exact hdc.fs hc
 refine⟨fun k z hz=>hdf.ix hz,fun z hz=>?_,fun k z hz y hy e=>?_,fun i x hx=>?_⟩
 · obtain⟨i,j,hi,hj,e1,e2,_⟩:=h.links.2.1 z hz
   have hp:F.pure.comps.length=F.comps.length:=aEg ..
   obtain⟨c,_,hc⟩:=hto i om
   obtain⟨d,_,hd⟩:=hto j om
   rw[e1,e2];exact⟨⟨c,hc⟩,d,hd⟩
 · obtain⟨i,hi⟩:=aFt hy
   have hik:i<k:=by have:=(aEc.1 hi).1;rw[aEe]at this;omega
   rw[aGk hik]at hi
   have hnd:(F.links.map fun x=>(x.src,x.dst)).Nodup:=h.links.2.2
   obtain⟨hi1,hi2⟩:=aEc.1 hi
   obtain⟨hk1,hk2⟩:=aEc.1 hz
   have:=List.pairwise_iff_getElem.1 hnd i k (by rw[aEg];exact hi1) (by rw[aEg];exact hk1) hik
   rw[List.getElem_map,List.getElem_map,hi2,hk2,e.1,e.2]at this
   exact this rfl
 · obtain⟨ct,ar,ok,hars,hfull⟩:=hA i _ (hpi i x hx)
   have hil:i<F.comps.length:=(aEc.1 hx).1
   have hcv:x.vars=varsOf ct.ints ct.tables:=ok.vars
   have hci:=ok.ok.ints
   have hct:=ok.ok.tables
   have hcf:=ok.ok.flags
   have hcfl:F.flags.map Fg.name=nms 102 ct.flags:=ok.flags
   have hdv:Dis Vr.name x.vars:=Dis.of (BU (by rw[hcv];exact MO _ om _ om))
   have har:=ok.ok.each ar (mog ok.arr)
   refine⟨hdc.fd hx,?_,fun k v hv=>⟨hdv.fd hv,?_⟩,fun n v hv k y hy=>?_⟩
   ·rw[hcfl,hnc i x hx];exact Kv (SV i om _ om)
   · rw[hcfl]
     refine Kv ?_
     have:=aGg.1 (SS ct.ints om ct.tables om ct.flags om) v (by rw[←hcv];exact mog hv)
     simpa using this
   · have gv:=ok.vers v.pure (aEv.2 ⟨v,mog hv,rfl⟩)
     have gn:∀j z,v.l[j]?=some z→Xr ct ar j z.pure:=fun j z hz=>gv.2.2 j z.pure (by show(v.l.map Hd.pure)[j]?=_;rw[aEp,hz];rfl)
     have hpl:v.pure.length=v.l.length:=aEg ..
     have gl:=gv.2.1
     have hdh:Dis Hd.name v.l:=Dis.of fun i j x y hij hx hy e=>by
      have hj:=(aEc.1 hy).1
      have e1:x.name=nm 104 i:=(gn i x hx).name
      have e2:y.name=nm 104 j:=(gn j y hy).name
      rw[e1,e2]at e
      have:=(Qd (by decide) (by decide) om om e).2
      omega
     have hyl:=(aEc.1 hy).1
     obtain⟨np,hnp,hps,hst⟩:=(gn k y hy).ps
     have hps:y.ps=nms 112 np:=hps
     have hnp2:np≤2:=har.2.2 np (mog hnp)
     have hyn:y.name=nm 104 k:=(gn k y hy).name
     refine⟨hdh.fd hy,fun h' hf=>?_,fun j p hp=>?_,Qi fun s hs=>?_⟩
     · obtain⟨j,mp,e,hj,h1,h2⟩:=uO ok (fun v hv=>aFy hv) hf
       rw[hyn]at e
       have e2:=(Qd (by decide) (by decide) om om e).2
       subst e2
       rw[hnp]at h1
       rw[h2,hps,aEn h1]
     · have hjl:=(aEc.1 hp).1
       have hdp:Dis (fun s:ByteArray=>s) y.ps:=BS (c:=112) (n:=np) (by decide) om (by rw[List.map_id'];exact hps)
       have hix:=hdp.ix hp
       rw[List.map_id']at hix
       have hjn:j<np:=by rw[hps,Dq]at hjl;exact hjl
       have hpe:p=nm 112 j:=by
        rw[hps,Ea hjn]at hp
        exact(aEn hp).symm
       refine⟨?_,?_,hix⟩
       ·rw[hcv,hpe];exact Option.isNone_iff_eq_none.1 (XY _ om _ om j om)
       ·rw[hcfl,hpe];exact Kv (Rc (by decide) (by decide) om om (by decide))
     · refine StE.ty (ct:=ct) (np:=np) ⟨ok.ok,hnp2,hcfl,hcv,hps,fun to a q m h1 h2=>?_,fun a q m h1 h2=>?_⟩ (hst s hs)
       · rw[hars]at h1
         obtain⟨c,hc,hfc⟩:=hto to (by rw[hcl];exact(aEc.1 h1).1)
         obtain⟨ct2,ar2,ok2,hars2,hfull2⟩:=hA to _ (hpi to c hc)
         have h4:=ok2.arr
         rw[hars2,h1]at h4
         obtain rfl:=aEn h4
         obtain⟨h',h5,h6⟩:=MP ok2 hfull2 h2
         exact⟨c,h',hfc,h5,h6⟩
       · rw[ok.own,ok.arr]at h1
         obtain rfl:=aEn h1
         exact MP ok hfull h2
theorem MQ{P:Program}{f:FuncId}{args:List Value}{Γ Γ':List Ai}{R:Value→List Ai→Prop}(h:∀(C:Cx) (ρ:Cb) (K:Act→World→Prop),To C ρ Γ' K→To C ρ Γ K)(k:aMa P f args Γ' R):aMa P f args Γ R:=fun w hs=>by
 have h1:Dj Γ Γ' w w:=h ⟨0,Γ,w,[]⟩ [] (fun _ w'=>w'=w→Dj Γ Γ' w w) (fun _ w' _ hp e=>by subst e;exact hp) _ w (Wo [] 0 rfl) (Dj.refl hs) rfl
 exact(k w h1.sat).mono fun e w' ⟨v,Γ2,h2,h3,h4⟩=>⟨v,Γ2,h2,h3,h1.trans h4⟩
theorem uP(bc:Nat)(F:Fl)(hF:Ol F)(hCap:F.Cap)(i:Nat)(x:Cm)(hx:F.comps[i]?=some x)(hcg:x.Good)(n:Nat)(v:Vs)(hv:x.vers[n]?=some v)(m:Nat)(h:Hd)(hh:v.l[m]?=some h)(hg:h.Good)(hT:TyH F x h)(hσ:Scp.Low ⟨F.Af,F.qf,F.flags,x.Av,x.qv,x.vars,h.Ap,h.qp,h.ps⟩)(hqp:h.ps.length≤h.qp)(w ver:ByteArray)(hver:ver.size≤30):
    Dz 149 [pv bc, .agg (Jl x).toArray, .agg (Me h).toArray, .string ver] [box bc (cF F [.string w, .string nE, .string nE,iv 0]) 235,all (F.kids eX),p10c] (fun v Γ'=>∃w':ByteArray,v= .tuple #[]∧Γ'=[box bc (cF F [.string w', .string nE, .string nE,iv 0]) 235]):=by
 have hps:=hg.ps
 have hsl:h.ps.length≤2:=hσ.p
 have hsv:x.vars.length≤5:=hσ.v
 have hsf:F.flags.length≤2:=hσ.f
 have hs1:=Om hcg.nm
 have hs2:=Om hg.nm
 have hz1:(aLy [115,116,97,116,101,109,101,110,116,32]).size=10:=rfl
 have hz2:(aLy [46]).size=1:=rfl
 have hz3:(aLy [32]).size=1:=rfl
 refine Am func149 ntmps149 fun w0=>?_
 refine Js (To.g (Jbo fun b5=>?_))
 refine Jbo fun b6=>?_
 refine Jz 4 ?_
 refine To.one 3 rfl (ros Iy x.Av x.vars) rfl (Fj hx _ Rj) (To.one 4 rfl (ros Gx F.Af F.flags) rfl (Qh (k:=eX)) (To.one 5 rfl (ros aMb h.Ap h.ps) rfl (Fj hx _ (Ky hv _ (Ur hh _ fI))) (Jz 8 ?_)))
 refine Cw (fun s g mz ρ Γ=>∃(k:Nat),ρ=[s 0,s 3,s 5,s 6,s 14,s 15,(16,nv k)]∧Γ=[g 5,g 4,g 3,g 6,p10c,g 2,g 1,g 0]∧mz=h.ps.length-k∧(k≤h.ps.length)) ⟨⟨0,rfl,rfl,rfl,om⟩,sb⟩ ?_
 rintro mz _ _ ⟨k,rfl,rfl,rfl,hk⟩
 refine Jz 6 ?_
 refine Jcp rfl ?_ ?_<;>intro k17
 obtain⟨p,hp⟩:=exg h.ps k om
 obtain⟨hp1,hp2,hp3⟩:=hT.ps k p hp
 have htl:(h.ps.take k).length=k:=by rw[aEe];omega
 have hct:=Tc h.Ap h.qp (h.ps.take k) p none om hp3
 (try unfold vs at hct);rw[htl]at hct
 refine Jz 18 ?_
 refine Jvf (fJ x.Av x.qv x.vars p none om hp1) rfl (ocs (oca 5 rfl) (ocn _)) ?_
 refine Jz 3 ?_
 refine Jal fun b10=>?_
 refine Jz 4 ?_
 refine To.take k 8 rfl (Jz 11 ?_)
 refine Jvf (Tx F.Af F.qf F.flags p none om hp2) rfl (ocs (oca 8 rfl) (ocn _)) ?_
 refine Jz 6 ?_
 refine Jr (Eo (hi:=k) rfl s37 rfl rfl om) ?_
 refine Jm ?_
 refine Jvf (hct) rfl (ocs (oca 0 rfl) (ocn _)) ?_
 refine Jz 3 ?_
 refine Jcf [2] (Ia bc F w p 5) ?_
 rintro _ _ ⟨rfl,rfl⟩
 refine Jz 8 ?_
 refine Cg ⟨⟨k+1,rfl,rfl,rfl,om⟩,sb⟩
 refine Jz 6 ?_
 refine Jfw [] [0,2,3,4,5,7,9,101,106,108,110,11,12,213,14014] (ocn _) ?_
 refine Jz 11 ?_
 refine Fw.f rfl (.bd [vs F.Af F.flags F.qf,vs x.Av x.vars x.qv,vs h.Ap h.ps h.qp]) ?_
 refine Fw.f rfl (.bd [pv bc,vs F.Af F.flags F.qf,vs x.Av x.vars x.qv,vs h.Ap h.ps h.qp, .string x.name,vs x.Av x.vars x.qv,vs x.An x.vers x.qn, .string bE,iv 0]) ?_
 refine Fw.mk rfl rfl rfl rfl rfl (Mk.box rfl rfl rfl) ?_
 rintro _ _ ⟨b66,rfl,rfl⟩
 refine Jz 8 ?_
 refine Jr (Io (a:=(aLy [115,116,97,116,101,109,101,110,116,32])) (b:=x.name) rfl rfl rfl (by first|omega|(simp only[aFa];omega))) ?_
 refine Jr (Io (a:=((aLy [115,116,97,116,101,109,101,110,116,32])++x.name)) (b:=(aLy [46])) rfl rfl rfl (by first|omega|(simp only[aFa];omega))) ?_
 refine Jz 2 ?_
 refine Jr (Io (a:=(((aLy [115,116,97,116,101,109,101,110,116,32])++x.name)++(aLy [46]))) (b:=h.name) rfl rfl rfl (by first|omega|(simp only[aFa];omega))) ?_
 refine Jm ?_
 refine Jr (Io (a:=((((aLy [115,116,97,116,101,109,101,110,116,32])++x.name)++(aLy [46]))++h.name)) (b:=ver) rfl rfl rfl (by first|omega|(simp only[aFa];omega))) ?_
 refine Jr (Io (a:=(((((aLy [115,116,97,116,101,109,101,110,116,32])++x.name)++(aLy [46]))++h.name)++ver)) (b:=(aLy [32])) rfl rfl rfl (by first|omega|(simp only[aFa];omega))) ?_
 refine Jz 5 ?_
 refine Db 4 rfl (lsG Bw Dh h.Ab h.body) (Dx _ _ _ _) (fun z hz=>Fj hx _ (Ky hv _ (Ur hh _ (Rk (k:=eX) z hz)))) (Jz 4 ?_)
 refine Jcf [1,1,0,5,4,4,2,2] (kG b66 bc F x ⟨F.Af,F.qf,F.flags,x.Av,x.qv,x.vars,h.Ap,h.qp,h.ps⟩ hσ ((((((aLy [115,116,97,116,101,109,101,110,116,32])++x.name)++(aLy [46]))++h.name)++ver)++(aLy [32])) (by simp only[aFa];omega) hF i hx h.body h.Ab h.qb 0 w hg.len hg.low hT.body (by have:=hg.cnt;omega)) ?_
 rintro _ _ ⟨w2,rfl,rfl⟩
 refine Jn (Dl (Cu (Du (Co (.inr rfl) results149 ?_))))
 exact⟨_,rfl,rfl⟩
theorem MR(bc:Nat)(F:Fl)(hF:Ol F)(hCap:F.Cap)(hT:TyF F)(w:ByteArray):
    Dz 87 [pv bc] [box bc (cF F [.string w, .string nE, .string nE,iv 0]) 235,all (F.kids eX)] (fun v Γ'=>∃w':ByteArray,v= .tuple #[]∧Γ'=[box bc (cF F [.string w', .string nE, .string nE,iv 0]) 235]):=by
 have hF2:=hF.flags
 have hcp:=hCap.1.1
 have hz1:(aLy [102,108,97,103,32]).size=5:=rfl
 refine Am func87 ntmps87 fun w0=>?_
 refine Js (To.one 1 rfl (ros Gx F.Af F.flags) rfl (Qh (k:=eX)) (Jz 11 ?_))
 refine Cw (fun s g mz ρ Γ=>∃(ww:ByteArray) (k:Nat),ρ=[s 0,s 8,s 9,(10,nv k)]∧Γ=[box bc (cF F [.string ww, .string nE, .string nE,iv 0]) 235,g 0]∧mz=F.flags.length-k∧(k≤F.flags.length)) ⟨⟨w,0,rfl,rfl,rfl,om⟩,sb⟩ ?_
 rintro mz _ _ ⟨ww,k,rfl,rfl,rfl,hk⟩
 refine Jz 6 ?_
 refine Jcp rfl ?_ ?_<;>intro k11
 obtain⟨z,hz⟩:=exg F.flags k om
 have htl:(F.flags.take k).length=k:=by rw[aEe];omega
 have hs1:=Om (hF.flag z (mog hz))
 have hff:=Tx F.Af F.qf (F.flags.take k) z.name none om (hT.fl k z hz)
 (try unfold vs at hff);rw[htl]at hff
 refine Jz 9 ?_
 refine Jal fun b3=>?_
 refine Jz 10 ?_
 refine Jr (Io (a:=(aLy [102,108,97,103,32])) (b:=z.name) rfl rfl rfl (by first|omega|(simp only[aFa];omega))) ?_
 refine Jcf [1] (nD bc F ww ((aLy [102,108,97,103,32])++z.name)) ?_
 rintro _ _ ⟨rfl,rfl⟩
 refine Jz 6 ?_
 refine To.take k 2 rfl (Jfw [] [0,1,2,3,4,6,8,12,105,7,109,310,11,113,514] (ocn _) ?_)
 refine Jz 9 ?_
 refine Fw.f rfl (Eo (hi:=k) rfl aAc rfl rfl om) ?_
 refine Jz 1 ?_
 refine Fw.qf (hff) (ocs (oca 0 rfl) (ocn _)) ?_
 refine Jz 2 ?_
 refine Da [1] (Ia bc F ((aLy [102,108,97,103,32])++z.name) z.name 5) ?_
 rintro _ _ ⟨rfl,rfl⟩
 refine⟨ocn _,?_⟩
 refine Jz 8 ?_
 refine Cg ⟨⟨((aLy [102,108,97,103,32])++z.name),k+1,rfl,rfl,rfl,om⟩,sb⟩
 refine Jz 4 ?_
 refine Df (Co (.inr rfl) results87 ?_)
 exact⟨_,rfl,rfl⟩
theorem XZ{z1 z2 y:ByteArray}{j:Nat}(h:[z1,z2][j]?=some y):y=z1∨y=z2:=by
 have:=mog h
 simpa using this
theorem MS(bc:Nat)(F:Fl)(hF:Ol F)(hCap:F.Cap)(hT:TyF F)(w:ByteArray):
    Dz 88 [pv bc] [box bc (cF F [.string w, .string nE, .string nE,iv 0]) 235,all (F.kids eX)] (fun v Γ'=>∃w':ByteArray,v= .tuple #[]∧Γ'=[box bc (cF F [.string w', .string nE, .string nE,iv 0]) 235]):=by
 have hF2:=hF.links
 have hFc:=hF.comps
 have hcp:=hCap.1.2.1
 have hzz:∀a b:ByteArray,[a,b].length=2:=fun _ _=>rfl
 have hz1:(aLy [108,105,110,107,32]).size=5:=rfl
 have hz2:(aLy [32]).size=1:=rfl
 refine Am func88 ntmps88 fun w0=>?_
 refine Js (To.one 1 rfl (ros Lb F.Al F.links) rfl (Uq (k:=eX)) (To.one 2 rfl (ros Jl F.Ac F.comps) rfl (Jc (k:=eX)) (Jz 11 ?_)))
 refine Cw (fun s g mz ρ Γ=>∃(ww:ByteArray) (k:Nat),ρ=[s 0,s 13,s 14,(15,nv k)]∧Γ=[box bc (cF F [.string ww, .string nE, .string nE,iv 0]) 235,g 1,g 0]∧mz=F.links.length-k∧(k≤F.links.length)) ⟨⟨w,0,rfl,rfl,rfl,om⟩,sb⟩ ?_
 rintro mz _ _ ⟨ww,k,rfl,rfl,rfl,hk⟩
 refine Jz 6 ?_
 refine Jcp rfl ?_ ?_<;>intro k16
 obtain⟨z,hz⟩:=exg F.links k om
 have hzm:=mog hz
 have htl:(F.links.take k).length=k:=by rw[aEe];omega
 have hs1:=Om (hF.link z hzm).1
 have hs2:=Om (hF.link z hzm).2.1
 obtain⟨⟨c1,hc1⟩,c2,hc2⟩:=hT.lk z hzm
 refine Jz 9 ?_
 refine Jal fun b3=>?_
 refine Jz 10 ?_
 refine Jr (Io (a:=(aLy [108,105,110,107,32])) (b:=z.src) rfl rfl rfl (by first|omega|(simp only[aFa];omega))) ?_
 refine Jr (Io (a:=((aLy [108,105,110,107,32])++z.src)) (b:=(aLy [32])) rfl rfl rfl (by first|omega|(simp only[aFa];omega))) ?_
 refine Jz 2 ?_
 refine Jr (Io (a:=(((aLy [108,105,110,107,32])++z.src)++(aLy [32]))) (b:=z.dst) rfl rfl rfl (by first|omega|(simp only[aFa];omega))) ?_
 refine Jcf [1] (nD bc F ww ((((aLy [108,105,110,107,32])++z.src)++(aLy [32]))++z.dst)) ?_
 rintro _ _ ⟨rfl,rfl⟩
 refine Jz 13 ?_
 refine Eg [.string z.src, .string z.dst] fun b34=>?_
 refine Jz 5 ?_
 refine Cq (enc:=aMb) (l:=[z.src,z.dst]) (Cw (fun s g mz ρ Γ=>∃(wj:ByteArray) (j:Nat),ρ=[s 0,s 13,s 14,s 15,s 2,s 3,s 34,s 35,(36,nv j)]∧Γ=[box bc (cF F [.string wj, .string nE, .string nE,iv 0]) 235,g 3,g 4,g 2,g 0]∧mz=2-j∧(j≤2)) ⟨⟨_,0,rfl,rfl,rfl,om⟩,sb⟩ ?_)
 rintro mz _ _ ⟨wj,j,rfl,rfl,rfl,hj⟩
 refine Jz 6 ?_
 refine Jcp rfl ?_ ?_<;>intro k37
 have hz2l:=hzz z.src z.dst
 obtain⟨y,hy⟩:∃z0,[z.src,z.dst][j]?=some z0:=⟨[z.src,z.dst][j]'om,gge _⟩
 obtain⟨cy,hcy⟩:∃cy,fdC F.comps y=some cy:=by
  rcases XZ hy with e|e
  ·rw[e];exact⟨c1,hc1⟩
  ·rw[e];exact⟨c2,hc2⟩
 refine Jz 19 ?_
 refine Jvf (kD F.Ac F.qc F.comps y cy om hcy) rfl (ocs (oca 2 rfl) (ocn _)) ?_
 refine Jz 3 ?_
 refine Jal fun b6=>?_
 refine Jz 8 ?_
 refine Jcf [1] (Ia bc F wj y 9) ?_
 rintro _ _ ⟨rfl,rfl⟩
 refine Jz 8 ?_
 refine Cg ⟨⟨wj,j+1,rfl,rfl,rfl,om⟩,sb⟩
 refine Jz 6 ?_
 refine Ic (Zh (To.g (Jr (Rd.makeFunc rfl rfl rfl) ?_)))
 refine Jz 3 ?_
 have hcl:=qV b3 z F.Al F.ql (F.links.take k) om (hT.ln k z hz)
 (try unfold vs at hcl);rw[htl]at hcl
 refine To.take k 2 rfl (Jfw [] [0,1,2,3,4,6,8,11,105,7,309,10,112,513] (ocn _) ?_)
 refine Jz 9 ?_
 refine Fw.f rfl (Eo (hi:=k) rfl aAd rfl rfl om) ?_
 refine Fw.qf (hcl) (ocs (oca 0 rfl) (ocs (oca 1 rfl) (ocn _))) ?_
 refine Jz 1 ?_
 refine Fw.r rfl (Ck (i:=1) rfl rfl c9 rfl (Iq (A:=some ⟨b3,0,none⟩) (o:=0) (k:=1) rfl)) ?_
 refine Da [2] (Ia bc F wj z.src 5) ?_
 rintro _ _ ⟨rfl,rfl⟩
 refine⟨ocn _,?_⟩
 refine Jz 8 ?_
 refine Cg ⟨⟨wj,k+1,rfl,rfl,rfl,om⟩,sb⟩
 refine Jz 4 ?_
 refine Cu (Df (Co (.inr rfl) results88 ?_))
 exact⟨_,rfl,rfl⟩
end Go.Proofs.YtlihklladkagpaaGreatDoor

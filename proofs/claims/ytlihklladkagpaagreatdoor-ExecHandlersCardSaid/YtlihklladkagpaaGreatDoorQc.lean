/- Own text. -/
import Derived.Test.YtlihklladkagpaaGreatDoorKa
import Derived.Test.YtlihklladkagpaaGreatDoorQa
set_option linter.unusedVariables false
set_option linter.unusedSimpArgs false
set_option maxHeartbeats 2000000
set_option maxRecDepth 100000
namespace Go.Proofs.YtlihklladkagpaaGreatDoor
open Go.Proofs.Tryz
open Go.RowKit Go.Flow Go.Mem Go.Sep Go.In
mutual
def PE.dep:PE→Nat
 |⟨_,_,_,l⟩=>Nw l+1
def Nw:List PE→Nat
 |[]=>0
 |e::r=>max (PE.dep e) (Nw r)
end
theorem dQ:∀(l:List PE) (x:PE),Nw (l++[x])=max (Nw l) x.dep
 |[],x=>by show max x.dep 0=max 0 x.dep;omega
 |e::r,x=>by show max e.dep (Nw (r++[x]))=max (max e.dep (Nw r)) x.dep;rw[dQ r x];omega
theorem jV:∀{l:List PE} {x:PE},x∈l→x.dep≤Nw l
 | e::r,x,h=>by
   show x.dep≤max e.dep (Nw r)
   rcases aEi.1 h with rfl|h
   ·omega
   ·have:=jV h;omega
mutual
def PE.fine:PE→Prop
 |⟨o,s,n,l⟩=>(1≤o∧o≤23)∧l.length=xM.getD o 0∧((qC.getD o false=true→Qt s)∧(qC.getD o false=false→s=nE))∧((o=1→0≤n)∧(o≠1→n=0))∧Pn l
def Pn:List PE→Prop
 |[]=>True
 |e::r=>PE.fine e∧Pn r
end
theorem Uo:∀{l:List PE},Pn l→∀x∈l,x.fine
 |[],_,x,h=>by cases h
 | e::r,h,x,hx=>by
   rcases aEi.1 hx with rfl|hx
   ·exact h.1
   ·exact Uo h.2 x hx
theorem dR:∀{l:List PE},(∀x∈l,x.fine)→Pn l
 |[],_=>trivial
 |e::r,h=>⟨h e (aEd ..),dR fun x hx=>h x (aEb _ hx)⟩
theorem dS{e x:Ex}(h:e.pure.fine)(hx:x∈e.args):x.pure.fine:=by
 rw[Fu]at h
 refine Uo h.2.2.2.2 x.pure ?_
 rw[Bz];exact aEv.2 ⟨x,hx,rfl⟩
theorem dU{l:List Ex}(h:Pn (Cv l)){x:Ex}(hx:x∈l):x.pure.fine:=Uo h x.pure (by rw[Bz];exact aEv.2 ⟨x,hx,rfl⟩)
structure Ex.Fine(e:Ex):Prop where
 o1:1≤e.op
 o2:e.op≤23
 args:e.args.length=xM.getD e.op 0
 nm1:qC.getD e.op false=true→Qt e.name
 nm2:qC.getD e.op false=false→e.name=nE
 n1:e.op=1→0≤e.n
 n2:e.op≠1→e.n=0
theorem jW{e:Ex}(h:e.pure.fine):e.Fine:=by
 rw[Fu]at h
 obtain⟨⟨h1,h2⟩,h3,⟨h4,h5⟩,⟨h6,h7⟩,_⟩:=h
 rw[Bz,aEg]at h3
 exact⟨h1,h2,h3,h4,h5,h6,h7⟩
section
variable{c:Ct}{np:Nat}
theorem un1{o:Nat}{s:ByteArray}{e:PE}(h:e.fine)(ho:o=9∨o=10):PE.fine ⟨o,nE,0,[e]⟩:=by
 rcases ho with rfl|rfl<;>exact⟨by decide,rfl,⟨fun h=>(by cases h),fun _=>rfl⟩,⟨fun h=>om,fun _=>rfl⟩,h,trivial⟩
theorem bi2{o:Nat}{a b:PE}(ha:a.fine)(hb:b.fine)(h1:11≤o)(h2:o≤23):PE.fine ⟨o,nE,0,[a,b]⟩:=by
 have all:∀o,o<24→11≤o→xM.getD o 0=2∧qC.getD o false=false:=by decide
 obtain⟨e1,e2⟩:=all o om h1
 refine⟨⟨by omega,h2⟩,by rw[e1];rfl,⟨fun h=>?_,fun _=>rfl⟩,⟨fun h=>om,fun _=>rfl⟩,ha,hb,trivial⟩
 rw[e2]at h;cases h
theorem lf0{o:Nat}{s:ByteArray}{n:Int}(ho:1≤o∧o≤5∨o=8)(h1:o=5∨o=8→Qt s)(h2:o≠5→o≠8→s=nE)(h3:o=1→0≤n)(h4:o≠1→n=0):PE.fine ⟨o,s,n,[]⟩:=by
 have all:∀o,o<24→(1≤o∧o≤5∨o=8)→xM.getD o 0=0∧(qC.getD o false=true↔o=5∨o=8):=by decide
 obtain⟨e1,e2⟩:=all o om ho
 refine⟨by omega,by rw[e1];rfl,⟨fun h=>h1 (e2.1 h),fun h=>?_⟩,⟨h3,h4⟩,trivial⟩
 have:¬(o=5∨o=8):=fun h5=>by rw[e2.2 h5]at h;cases h
 exact h2 om om
theorem tb1{o:Nat}{s:ByteArray}{e:PE}(h:e.fine)(hs:Qt s)(ho:o=6∨o=7):PE.fine ⟨o,s,0,[e]⟩:=by
 rcases ho with rfl|rfl<;>exact⟨by decide,rfl,⟨fun _=>hs,fun h=>(by cases h)⟩,⟨fun h=>om,fun _=>rfl⟩,h,trivial⟩
theorem Kh.fine(ok:c.Ok)(hnp:np≤2){d:Nat}{e:PE}(h:Kh c np d e):e.fine∧e.dep≤d+1:=by
 have hi:=ok.ints
 induction h with
 |num d n h=>exact⟨lf0 om om (fun _ _=>rfl) (fun _=>by omega) om,Nat.le_add_left 1 d⟩
 |var d k h=>exact⟨lf0 om (fun _=>pY om) om om (fun _=>rfl),Nat.le_add_left 1 d⟩
 |par d k h=>exact⟨lf0 om (fun _=>LP om) om om (fun _=>rfl),Nat.le_add_left 1 d⟩
 |now d=>exact⟨lf0 om om (fun _ _=>rfl) om (fun _=>rfl),Nat.le_add_left 1 d⟩
 |get d e ht h ih=>exact⟨tb1 ih.1 Wy (.inl rfl),by show max e.dep 0+1≤_;have:=ih.2;omega⟩
 |size d ht=>exact⟨lf0 om (fun _=>Wy) om om (fun _=>rfl),Nat.le_add_left 1 d⟩
 |neg d e h ih=>exact⟨un1 (s:=nE) ih.1 (.inl rfl),by show max e.dep 0+1≤_;have:=ih.2;omega⟩
 |bin d op a b ho ha hb iha ihb=>exact⟨bi2 iha.1 ihb.1 om om,by show max a.dep (max b.dep 0)+1≤_;have:=iha.2;have:=ihb.2;omega⟩
theorem Pj.fine(ok:c.Ok)(hnp:np≤2){d:Nat}{e:PE}(h:Pj c np d e):e.fine∧e.dep≤d+4:=by
 have hf:=ok.flags
 induction h with
 |tf d op h=>exact⟨lf0 om om (fun _ _=>rfl) om (fun _=>rfl),show 1≤d+4 by omega⟩
 |b0 d=>exact⟨lf0 om (fun _=>qB) om om (fun _=>rfl),show 1≤d+4 by omega⟩
 |flag d k h=>exact⟨lf0 om (fun _=>LQ om) om om (fun _=>rfl),show 1≤d+4 by omega⟩
 |has d e ht h=>have:=h.fine ok hnp;exact⟨tb1 this.1 Wy (.inr rfl),by show max e.dep 0+1≤_;omega⟩
 |not d e h ih=>exact⟨un1 (s:=nE) ih.1 (.inr rfl),by show max e.dep 0+1≤_;have:=ih.2;omega⟩
 |two d op a b ho ha hb iha ihb=>exact⟨bi2 iha.1 ihb.1 om om,by show max a.dep (max b.dep 0)+1≤_;have:=iha.2;have:=ihb.2;omega⟩
 |cmp d op a b ho ha hb=>have:=ha.fine ok hnp;have:=hb.fine ok hnp;exact⟨bi2 ‹a.fine∧_›.1 ‹b.fine∧_›.1 om om,by show max a.dep (max b.dep 0)+1≤_;omega⟩
end
theorem FH(e:Ex)(hlow:e.pure.low)(hd:e.pure.dep≤100)(ih:∀x∈e.args,x.pure.low→x.pure.dep≤100→Dz 172 [.agg (Bw x).toArray] [all (x.kids Bw)] (fun v Γ'=>v=nv x.pure.dep∧Γ'=[])):
    Dz 172 [.agg (Bw e).toArray] [all (e.kids Bw)] (fun v Γ'=>v=nv e.pure.dep∧Γ'=[]):=by
 obtain⟨hop,hal⟩:=Tw hlow
 refine Am func172 ntmps172 fun w0=>?_
 refine Js (To.g (Jbo fun b1=>?_))
 refine Jz 10 ?_
 refine To.one 1 rfl (ros Bw e.A e.args) rfl (Re e) (Jz 8 ?_)
 refine Cw (fun s g mz ρ Γ=>∃(m:Nat) (k:Nat),ρ=[s 1,(3,nv m),s 7,(8,nv k)]∧Γ=[g 1,g 0,g 2]∧mz=e.args.length-k∧(k≤e.args.length)∧(m=Nw (Cv (e.args.take k)))∧(m≤100)) ⟨⟨0,0,rfl,rfl,rfl,om,rfl,om⟩,sb⟩ ?_
 rintro mz _ _ ⟨m,k,rfl,rfl,rfl,hk,hm,hmb⟩
 refine Jz 6 ?_
 refine Jcp rfl ?_ ?_<;>intro c9
 obtain⟨x,hx⟩:=exg e.args k om
 have hxd:x.pure.dep≤100:=by
  have h:=jV (l:=Cv e.args) (x:=x.pure) (by rw[Bz];exact aEv.2 ⟨x,mog hx,rfl⟩)
  have h2:e.pure.dep=Nw (Cv e.args)+1:=by rw[Fu e];rfl
  omega
 refine Jz 10 ?_
 refine Db 2 rfl (x.kids Bw) (Ex.lax Bw x) (Sz hx) (Jz 7 ?_)
 refine Jqf (ih x (mog hx) (Qf hlow (mog hx)) hxd) (by show owns (x.kids Bw)++[]=[];rw[(Ex.lax Bw x).owns];rfl) (ocs (oca 0 rfl) (ocn _)) ?_
 rintro _ _ ⟨rfl,rfl⟩
 refine⟨rfl,?_⟩
 refine Jr (Cr (v':=nv (max m x.pure.dep)) (congrArg iv om) (Rd.max rfl rfl rfl)) ?_
 refine Jz 9 ?_
 refine Cg ⟨⟨(max m x.pure.dep),k+1,rfl,rfl,rfl,om,(by rw[Cf hx,Bz,aEq,←Bz];show _=Nw (Cv (e.args.take k)++[x.pure]);rw[dQ,←hm]),om⟩,sb⟩
 refine Jz 13 ?_
 refine Cu (Df (Du (Je1 results172 ?_)))
 have h2:e.pure.dep=m+1:=by rw[Fu e];show Nw (Cv e.args)+1=_;rw[hm,aEm om]
 rw[h2];exact⟨rfl,rfl⟩
theorem BL:∀e:Ex,e.pure.low→e.pure.dep≤100→Dz 172 [.agg (Bw e).toArray] [all (e.kids Bw)] (fun v Γ'=>v=nv e.pure.dep∧Γ'=[])
 |e,h1,h2=>FH e h1 h2 (fun x hx=>BL x)
termination_by e=>SizeOf.sizeOf e
decreasing_by
 cases e with
 | mk op s n A q l=>
   have:=aFq (show x∈l from hx)
   simp only[Ex.mk.sizeOf_spec]
   omega
theorem xU(P:OA)(e:Ex)(hf:e.Fine):
    Dz 176 [.pointer (some ⟨blk P,ofs P+0*4,none⟩)] [ros Bw P [e],glc] (fun v _=>v= .bool true):=by
 refine Am func176 ntmps176 fun w0=>?_
 refine Jz 10 ?_
 refine Jr (Ck (i:=0) rfl rfl QN rfl (gvt (f:=0) (rsg Hw (show([e]:List Ex)[0]?=some e from rfl)) rfl)) ?_
 refine Jqf (tY hf.o1 hf.o2) rfl (Nj 1 rfl) ?_
 rintro _ _ ⟨c1,d1,rfl,rfl⟩
 refine⟨rfl,?_⟩
 refine Jz 3 ?_
 refine Jal fun b3=>?_
 refine Jz 9 ?_
 refine JgB ?_ ?_<;>intro g16
 refine Jz 10 ?_
 refine Cu (Df (Du (Je1 results176 ?_)))
 rfl
 refine Jz 3 ?_
 refine Jr (Ck (i:=1) rfl rfl c9 rfl (gvt (rsg Hw (show([e]:List Ex)[0]?=some e from rfl)) rfl)) ?_
 refine Jvf (Jv (hf.nm1 (by simpa using g16))) rfl (Nj 2 rfl) ?_
 refine Jz 5 ?_
 refine Cu (Df (Du (Je1 results176 ?_)))
 rfl
theorem uE(P:OA)(e:Ex)(hf:e.Fine):
    Dz 177 [.pointer (some ⟨blk P,ofs P+0*4,none⟩)] [ros Bw P [e],glc] (fun v _=>v= .bool true):=by
 refine Am func177 ntmps177 fun w0=>?_
 refine Jz 10 ?_
 refine Jr (Ck (i:=0) rfl rfl QN rfl (gvt (f:=0) (rsg Hw (show([e]:List Ex)[0]?=some e from rfl)) rfl)) ?_
 refine Jqf (tY hf.o1 hf.o2) rfl (Nj 1 rfl) ?_
 rintro _ _ ⟨c1,d1,rfl,rfl⟩
 refine⟨rfl,?_⟩
 refine Jz 3 ?_
 refine Jal fun b3=>?_
 refine Jz 16 ?_
 refine Jfw [ros Bw P [e],box b3 [nv (xM.getD e.op 0), .bool (qC.getD e.op false),iv c1, .string d1] 356] [0,1,2,3,4,5,6,7,8] (ocs (oca 1 rfl) (ocs (oca 0 rfl) (ocn _))) ?_
 refine Jz 3 ?_
 refine Fw.f rfl (Ck (i:=0) rfl rfl Xk rfl (gvt (rsg Hw (show([e]:List Ex)[0]?=some e from rfl)) rfl)) ?_
 refine Jz 3 ?_
 refine Fw.f rfl (Cr (v':= .bool false) (congrArg Value.bool (aEo (fun h=>h (by rw[hf.args])))) (Rd.neq rfl rfl rfl)) ?_
 refine Jz 8 ?_
 refine JgB ?_ ?_<;>intro g27
 refine Jz 3 ?_
 refine Jr (Ck (i:=1) rfl rfl c9 rfl (gvt (rsg Hw (show([e]:List Ex)[0]?=some e from rfl)) rfl)) ?_
 refine Jr (Cr (v':= .bool false) (congrArg Value.bool (aEo (fun h=>h (hf.nm2 (by simpa using g27))))) (pW rfl rfl rfl)) ?_
 refine Jz 10 ?_
 refine Jr (Ck (i:=1) rfl rfl QN rfl (gvt (f:=0) (rsg Hw (show([e]:List Ex)[0]?=some e from rfl)) rfl)) ?_
 refine Jz 4 ?_
 refine Jcp rfl ?_ ?_<;>intro c34
 refine Jz 5 ?_
 refine Jr (Ck (i:=1) rfl rfl c2 rfl (gvt (rsg Hw (show([e]:List Ex)[0]?=some e from rfl)) rfl)) ?_
 refine Jr (Cr (v':= .bool true) (congrArg Value.bool (aEk (hf.n1 om))) (Rd.geq rfl rfl rfl)) ?_
 refine Jz 6 ?_
 refine Cu (Df (Du (Je1 results177 ?_)))
 rfl
 refine Jz 8 ?_
 refine Jr (Ck (i:=1) rfl rfl c2 rfl (gvt (rsg Hw (show([e]:List Ex)[0]?=some e from rfl)) rfl)) ?_
 refine Jr (Cr (v':= .bool true) (congrArg Value.bool (aEk (hf.n2 om))) (Rd.eql rfl rfl rfl)) ?_
 refine Jz 4 ?_
 refine Cu (Df (Du (Je1 results177 ?_)))
 rfl
 refine Jz 15 ?_
 refine Jr (Ck (i:=1) rfl rfl QN rfl (gvt (f:=0) (rsg Hw (show([e]:List Ex)[0]?=some e from rfl)) rfl)) ?_
 refine Jz 4 ?_
 refine Jcp rfl ?_ ?_<;>intro c34
 refine Jz 5 ?_
 refine Jr (Ck (i:=1) rfl rfl c2 rfl (gvt (rsg Hw (show([e]:List Ex)[0]?=some e from rfl)) rfl)) ?_
 refine Jr (Cr (v':= .bool true) (congrArg Value.bool (aEk (hf.n1 om))) (Rd.geq rfl rfl rfl)) ?_
 refine Jz 6 ?_
 refine Cu (Df (Du (Je1 results177 ?_)))
 rfl
 refine Jz 8 ?_
 refine Jr (Ck (i:=1) rfl rfl c2 rfl (gvt (rsg Hw (show([e]:List Ex)[0]?=some e from rfl)) rfl)) ?_
 refine Jr (Cr (v':= .bool true) (congrArg Value.bool (aEk (hf.n2 om))) (Rd.eql rfl rfl rfl)) ?_
 refine Jz 4 ?_
 refine Cu (Df (Du (Je1 results177 ?_)))
 rfl
theorem FI(e:Ex)(hlow:e.pure.low)(hfin:e.pure.fine)(ih:∀x∈e.args,∀P:OA,x.pure.low→x.pure.fine→Dz 197 [.pointer (some ⟨blk P,ofs P+0*4,none⟩), .func (.func 176) #[] #[]] [ros Bw P [x],all (x.kids Bw),glc] (fun v Γ'=>v= .bool true∧Γ'=[]))(P:OA):
    Dz 197 [.pointer (some ⟨blk P,ofs P+0*4,none⟩), .func (.func 176) #[] #[]] [ros Bw P [e],all (e.kids Bw),glc] (fun v Γ'=>v= .bool true∧Γ'=[]):=by
 obtain⟨hop,hal⟩:=Tw hlow
 have hf:=jW hfin
 refine Am func197 ntmps197 fun w0=>?_
 refine Jz 10 ?_
 refine JcV rfl rfl rfl (Ent.func (first:=[]) (captured:=[]) rfl rfl rfl (kc.h 176 rfl)) (xU P e hf) rfl (ocs (oca 0 rfl) (ocs (oca 2 rfl) (ocn _))) (Jz 8 ?_)
 refine To.one 1 rfl (ros Bw e.A e.args) rfl (Re e) (Jz 4 ?_)
 refine Jr (Ck (i:=1) rfl rfl Xk rfl (gvt (rsg Hw (show([e]:List Ex)[0]?=some e from rfl)) rfl)) ?_
 refine Jz 5 ?_
 refine Cw (fun s g mz ρ Γ=>∃(k:Nat),ρ=[s 0,s 1,s 14,(15,nv k)]∧Γ=[g 1,g 0,g 2,glc]∧mz=e.args.length-k∧(k≤e.args.length)) ⟨⟨0,rfl,rfl,rfl,om⟩,sb⟩ ?_
 rintro mz _ _ ⟨k,rfl,rfl,rfl,hk⟩
 refine Jz 6 ?_
 refine Jcp rfl ?_ ?_<;>intro c16
 obtain⟨x,hx⟩:=exg e.args k om
 refine Jz 11 ?_
 refine Yk Hw (by decide) 1 rfl hx (Db 3 rfl (x.kids Bw) (Ex.lax Bw x) (Sz hx) (Jz 4 ?_))
 refine Jr (Ck (i:=2) rfl rfl Xk rfl (gvt (rsg Hw (show([e]:List Ex)[0]?=some e from rfl)) rfl)) ?_
 refine Jz 3 ?_
 refine Jqf (ih x (mog hx) (some ⟨blk e.A,ofs e.A+k*4,none⟩) (Qf hlow (mog hx)) (dS hfin (mog hx))) (by show[]++(owns (x.kids Bw)++(owns gl++[]))=[];rw[(Ex.lax Bw x).owns];rfl) (ocs (oca 1 rfl) (ocs (oca 0 rfl) (ocs (oca 5 rfl) (ocn _)))) ?_
 rintro _ _ ⟨rfl,rfl⟩
 refine⟨rfl,?_⟩
 refine Jz 12 ?_
 refine Cg ⟨⟨k+1,rfl,rfl,rfl,om⟩,sb⟩
 refine Jz 11 ?_
 refine Dl (Cu (Df (Du (Je1 results197 ?_))))
 exact⟨rfl,rfl⟩
theorem BM:∀(e:Ex) (P:OA),e.pure.low→e.pure.fine→Dz 197 [.pointer (some ⟨blk P,ofs P+0*4,none⟩), .func (.func 176) #[] #[]] [ros Bw P [e],all (e.kids Bw),glc] (fun v Γ'=>v= .bool true∧Γ'=[])
 |e,P,h1,h2=>FI e h1 h2 (fun x hx=>BM x) P
termination_by e=>SizeOf.sizeOf e
decreasing_by
 cases e with
 | mk op s n A q l=>
   have:=aFq (show x∈l from hx)
   simp only[Ex.mk.sizeOf_spec]
   omega
theorem SC(P:OA)(s:St)(hle:s.exprs.length≤4)(hlow:Kk (Cv s.exprs))(hfin:Pn (Cv s.exprs)):
    Dz 175 [.pointer (some ⟨blk P,ofs P+0*6,none⟩), .func (.func 176) #[] #[]] [ros Dh P [s],all (lsF Bw s.A s.exprs),glc] (fun v Γ'=>v= .bool true∧Γ'=[]):=by
 refine Am func175 ntmps175 fun w0=>?_
 refine Jz 7 ?_
 refine To.one 1 rfl (ros Bw s.A s.exprs) rfl (aEd ..) (Jz 4 ?_)
 refine Jr (Ck (i:=1) rfl rfl Xk rfl (gvt (rsg Jh (show([s]:List St)[0]?=some s from rfl)) rfl)) ?_
 refine Jz 5 ?_
 refine Cw (fun u g mz ρ Γ=>∃(k:Nat),ρ=[u 0,u 1,u 10,(11,nv k)]∧Γ=[g 1,g 0,g 2,glc]∧mz=s.exprs.length-k∧(k≤s.exprs.length)) ⟨⟨0,rfl,rfl,rfl,om⟩,sb⟩ ?_
 rintro mz _ _ ⟨k,rfl,rfl,rfl,hk⟩
 refine Jz 6 ?_
 refine Jcp rfl ?_ ?_<;>intro c12
 obtain⟨x,hx⟩:=exg s.exprs k om
 refine Jz 11 ?_
 refine Yk Hw (by decide) 1 rfl hx (Db 3 rfl (x.kids Bw) (Ex.lax Bw x) (Yo hx) (Jz 4 ?_))
 refine Jr (Ck (i:=2) rfl rfl Xk rfl (gvt (rsg Jh (show([s]:List St)[0]?=some s from rfl)) rfl)) ?_
 refine Jz 3 ?_
 refine Jqf (BM x (some ⟨blk s.A,ofs s.A+k*4,none⟩) (Ob hlow (mog hx)) (dU hfin (mog hx))) (by show[]++(owns (x.kids Bw)++(owns gl++[]))=[];rw[(Ex.lax Bw x).owns];rfl) (ocs (oca 1 rfl) (ocs (oca 0 rfl) (ocs (oca 5 rfl) (ocn _)))) ?_
 rintro _ _ ⟨rfl,rfl⟩
 refine⟨rfl,?_⟩
 refine Jz 12 ?_
 refine Cg ⟨⟨k+1,rfl,rfl,rfl,om⟩,sb⟩
 refine Jz 11 ?_
 refine Dl (Cu (Df (Du (Je1 results175 ?_))))
 exact⟨rfl,rfl⟩
theorem FJ(e:Ex)(hlow:e.pure.low)(hfin:e.pure.fine)(ih:∀x∈e.args,∀P:OA,x.pure.low→x.pure.fine→Dz 197 [.pointer (some ⟨blk P,ofs P+0*4,none⟩), .func (.func 177) #[] #[]] [ros Bw P [x],all (x.kids Bw),glc] (fun v Γ'=>v= .bool true∧Γ'=[]))(P:OA):
    Dz 197 [.pointer (some ⟨blk P,ofs P+0*4,none⟩), .func (.func 177) #[] #[]] [ros Bw P [e],all (e.kids Bw),glc] (fun v Γ'=>v= .bool true∧Γ'=[]):=by
 obtain⟨hop,hal⟩:=Tw hlow
 have hf:=jW hfin
 refine Am func197 ntmps197 fun w0=>?_
 refine Jz 10 ?_
 refine JcV rfl rfl rfl (Ent.func (first:=[]) (captured:=[]) rfl rfl rfl (kc.h 177 rfl)) (uE P e hf) rfl (ocs (oca 0 rfl) (ocs (oca 2 rfl) (ocn _))) (Jz 8 ?_)
 refine To.one 1 rfl (ros Bw e.A e.args) rfl (Re e) (Jz 4 ?_)
 refine Jr (Ck (i:=1) rfl rfl Xk rfl (gvt (rsg Hw (show([e]:List Ex)[0]?=some e from rfl)) rfl)) ?_
 refine Jz 5 ?_
 refine Cw (fun s g mz ρ Γ=>∃(k:Nat),ρ=[s 0,s 1,s 14,(15,nv k)]∧Γ=[g 1,g 0,g 2,glc]∧mz=e.args.length-k∧(k≤e.args.length)) ⟨⟨0,rfl,rfl,rfl,om⟩,sb⟩ ?_
 rintro mz _ _ ⟨k,rfl,rfl,rfl,hk⟩
 refine Jz 6 ?_
 refine Jcp rfl ?_ ?_<;>intro c16
 obtain⟨x,hx⟩:=exg e.args k om
 refine Jz 11 ?_
 refine Yk Hw (by decide) 1 rfl hx (Db 3 rfl (x.kids Bw) (Ex.lax Bw x) (Sz hx) (Jz 4 ?_))
 refine Jr (Ck (i:=2) rfl rfl Xk rfl (gvt (rsg Hw (show([e]:List Ex)[0]?=some e from rfl)) rfl)) ?_
 refine Jz 3 ?_
 refine Jqf (ih x (mog hx) (some ⟨blk e.A,ofs e.A+k*4,none⟩) (Qf hlow (mog hx)) (dS hfin (mog hx))) (by show[]++(owns (x.kids Bw)++(owns gl++[]))=[];rw[(Ex.lax Bw x).owns];rfl) (ocs (oca 1 rfl) (ocs (oca 0 rfl) (ocs (oca 5 rfl) (ocn _)))) ?_
 rintro _ _ ⟨rfl,rfl⟩
 refine⟨rfl,?_⟩
 refine Jz 12 ?_
 refine Cg ⟨⟨k+1,rfl,rfl,rfl,om⟩,sb⟩
 refine Jz 11 ?_
 refine Dl (Cu (Df (Du (Je1 results197 ?_))))
 exact⟨rfl,rfl⟩
theorem BN:∀(e:Ex) (P:OA),e.pure.low→e.pure.fine→Dz 197 [.pointer (some ⟨blk P,ofs P+0*4,none⟩), .func (.func 177) #[] #[]] [ros Bw P [e],all (e.kids Bw),glc] (fun v Γ'=>v= .bool true∧Γ'=[])
 |e,P,h1,h2=>FJ e h1 h2 (fun x hx=>BN x) P
termination_by e=>SizeOf.sizeOf e
decreasing_by
 cases e with
 | mk op s n A q l=>
   have:=aFq (show x∈l from hx)
   simp only[Ex.mk.sizeOf_spec]
   omega
theorem SE(P:OA)(s:St)(hle:s.exprs.length≤4)(hlow:Kk (Cv s.exprs))(hfin:Pn (Cv s.exprs)):
    Dz 175 [.pointer (some ⟨blk P,ofs P+0*6,none⟩), .func (.func 177) #[] #[]] [ros Dh P [s],all (lsF Bw s.A s.exprs),glc] (fun v Γ'=>v= .bool true∧Γ'=[]):=by
 refine Am func175 ntmps175 fun w0=>?_
 refine Jz 7 ?_
 refine To.one 1 rfl (ros Bw s.A s.exprs) rfl (aEd ..) (Jz 4 ?_)
 refine Jr (Ck (i:=1) rfl rfl Xk rfl (gvt (rsg Jh (show([s]:List St)[0]?=some s from rfl)) rfl)) ?_
 refine Jz 5 ?_
 refine Cw (fun u g mz ρ Γ=>∃(k:Nat),ρ=[u 0,u 1,u 10,(11,nv k)]∧Γ=[g 1,g 0,g 2,glc]∧mz=s.exprs.length-k∧(k≤s.exprs.length)) ⟨⟨0,rfl,rfl,rfl,om⟩,sb⟩ ?_
 rintro mz _ _ ⟨k,rfl,rfl,rfl,hk⟩
 refine Jz 6 ?_
 refine Jcp rfl ?_ ?_<;>intro c12
 obtain⟨x,hx⟩:=exg s.exprs k om
 refine Jz 11 ?_
 refine Yk Hw (by decide) 1 rfl hx (Db 3 rfl (x.kids Bw) (Ex.lax Bw x) (Yo hx) (Jz 4 ?_))
 refine Jr (Ck (i:=2) rfl rfl Xk rfl (gvt (rsg Jh (show([s]:List St)[0]?=some s from rfl)) rfl)) ?_
 refine Jz 3 ?_
 refine Jqf (BN x (some ⟨blk s.A,ofs s.A+k*4,none⟩) (Ob hlow (mog hx)) (dU hfin (mog hx))) (by show[]++(owns (x.kids Bw)++(owns gl++[]))=[];rw[(Ex.lax Bw x).owns];rfl) (ocs (oca 1 rfl) (ocs (oca 0 rfl) (ocs (oca 5 rfl) (ocn _)))) ?_
 rintro _ _ ⟨rfl,rfl⟩
 refine⟨rfl,?_⟩
 refine Jz 12 ?_
 refine Cg ⟨⟨k+1,rfl,rfl,rfl,om⟩,sb⟩
 refine Jz 11 ?_
 refine Dl (Cu (Df (Du (Je1 results175 ?_))))
 exact⟨rfl,rfl⟩
end Go.Proofs.YtlihklladkagpaaGreatDoor

/- Own text. -/
import Derived.Test.YtlihklladkagpaaGreatDoorKa
import Derived.Test.YtlihklladkagpaaGreatDoorQb
set_option maxHeartbeats 8000000
set_option maxRecDepth 100000
set_option linter.unusedVariables false
set_option linter.unusedSimpArgs false
namespace Go.Proofs.YtlihklladkagpaaGreatDoor
open Go.Proofs.Tryz
open Go.RowKit Go.Flow Go.Mem Go.Sep Go.In
mutual
def PE.dep:PE→Nat
 |⟨_,_,_,l⟩=>Nw l+1
def Nw:List PE→Nat
 |[]=>0
 |e::r=>max (PE.dep e) (Nw r)
end
theorem dQ:∀(l:List PE) (x:PE),Nw (l++[x])=max (Nw l) x.dep
 |[],x=>by show max x.dep 0=max 0 x.dep;omega
 |e::r,x=>by show max e.dep (Nw (r++[x]))=max (max e.dep (Nw r)) x.dep;rw[dQ r x];omega
theorem jV:∀{l:List PE} {x:PE},x∈l→x.dep≤Nw l
 | e::r,x,h=>by
   show x.dep≤max e.dep (Nw r)
   rcases aEi.1 h with rfl|h
   ·omega
   ·have:=jV h;omega
mutual
def PE.fine:PE→Prop
 |⟨o,s,n,l⟩=>(1≤o∧o≤23)∧l.length=xM.getD o 0∧((qC.getD o false=true→Qt s)∧(qC.getD o false=false→s=nE))∧((o=1→0≤n)∧(o≠1→n=0))∧Pn l
def Pn:List PE→Prop
 |[]=>True
 |e::r=>PE.fine e∧Pn r
end
theorem Uo:∀{l:List PE},Pn l→∀x∈l,x.fine
 |[],_,x,h=>by cases h
 | e::r,h,x,hx=>by
   rcases aEi.1 hx with rfl|hx
   ·exact h.1
   ·exact Uo h.2 x hx
theorem dR:∀{l:List PE},(∀x∈l,x.fine)→Pn l
 |[],_=>trivial
 |e::r,h=>⟨h e (aEd ..),dR fun x hx=>h x (aEb _ hx)⟩
theorem dS{e x:Ex}(h:e.pure.fine)(hx:x∈e.args):x.pure.fine:=by
 rw[Fu]at h
 refine Uo h.2.2.2.2 x.pure ?_
 rw[Bz];exact aEv.2 ⟨x,hx,rfl⟩
theorem dU{l:List Ex}(h:Pn (Cv l)){x:Ex}(hx:x∈l):x.pure.fine:=Uo h x.pure (by rw[Bz];exact aEv.2 ⟨x,hx,rfl⟩)
structure Ex.Fine(e:Ex):Prop where
 o1:1≤e.op
 o2:e.op≤23
 args:e.args.length=xM.getD e.op 0
 nm1:qC.getD e.op false=true→Qt e.name
 nm2:qC.getD e.op false=false→e.name=nE
 n1:e.op=1→0≤e.n
 n2:e.op≠1→e.n=0
theorem jW{e:Ex}(h:e.pure.fine):e.Fine:=by
 rw[Fu]at h
 obtain⟨⟨h1,h2⟩,h3,⟨h4,h5⟩,⟨h6,h7⟩,_⟩:=h
 rw[Bz,aEg]at h3
 exact⟨h1,h2,h3,h4,h5,h6,h7⟩
section
variable{c:Ct}{np:Nat}
theorem un1{o:Nat}{s:ByteArray}{e:PE}(h:e.fine)(ho:o=9∨o=10):PE.fine ⟨o,nE,0,[e]⟩:=by
 rcases ho with rfl|rfl<;>exact⟨by decide,rfl,⟨fun h=>(by cases h),fun _=>rfl⟩,⟨fun h=>om,fun _=>rfl⟩,h,trivial⟩
theorem bi2{o:Nat}{a b:PE}(ha:a.fine)(hb:b.fine)(h1:11≤o)(h2:o≤23):PE.fine ⟨o,nE,0,[a,b]⟩:=by
 have all:∀o,o<24→11≤o→xM.getD o 0=2∧qC.getD o false=false:=by decide
 obtain⟨e1,e2⟩:=all o om h1
 refine⟨⟨by omega,h2⟩,by rw[e1];rfl,⟨fun h=>?_,fun _=>rfl⟩,⟨fun h=>om,fun _=>rfl⟩,ha,hb,trivial⟩
 rw[e2]at h;cases h
theorem lf0{o:Nat}{s:ByteArray}{n:Int}(ho:1≤o∧o≤5∨o=8)(h1:o=5∨o=8→Qt s)(h2:o≠5→o≠8→s=nE)(h3:o=1→0≤n)(h4:o≠1→n=0):PE.fine ⟨o,s,n,[]⟩:=by
 have all:∀o,o<24→(1≤o∧o≤5∨o=8)→xM.getD o 0=0∧(qC.getD o false=true↔o=5∨o=8):=by decide
 obtain⟨e1,e2⟩:=all o om ho
 refine⟨by omega,by rw[e1];rfl,⟨fun h=>h1 (e2.1 h),fun h=>?_⟩,⟨h3,h4⟩,trivial⟩
 have:¬(o=5∨o=8):=fun h5=>by rw[e2.2 h5]at h;cases h
 exact h2 om om
theorem tb1{o:Nat}{s:ByteArray}{e:PE}(h:e.fine)(hs:Qt s)(ho:o=6∨o=7):PE.fine ⟨o,s,0,[e]⟩:=by
 rcases ho with rfl|rfl<;>exact⟨by decide,rfl,⟨fun _=>hs,fun h=>(by cases h)⟩,⟨fun h=>om,fun _=>rfl⟩,h,trivial⟩
theorem Kh.fine(ok:c.Ok)(hnp:np≤2){d:Nat}{e:PE}(h:Kh c np d e):e.fine∧e.dep≤d+1:=by
 have hi:=ok.ints
 induction h with
 |num d n h=>exact⟨lf0 om om (fun _ _=>rfl) (fun _=>by omega) om,Nat.le_add_left 1 d⟩
 |var d k h=>exact⟨lf0 om (fun _=>pY om) om om (fun _=>rfl),Nat.le_add_left 1 d⟩
 |par d k h=>exact⟨lf0 om (fun _=>LP om) om om (fun _=>rfl),Nat.le_add_left 1 d⟩
 |now d=>exact⟨lf0 om om (fun _ _=>rfl) om (fun _=>rfl),Nat.le_add_left 1 d⟩
 |get d e ht h ih=>exact⟨tb1 ih.1 Wy (.inl rfl),by show max e.dep 0+1≤_;have:=ih.2;omega⟩
 |size d ht=>exact⟨lf0 om (fun _=>Wy) om om (fun _=>rfl),Nat.le_add_left 1 d⟩
 |neg d e h ih=>exact⟨un1 (s:=nE) ih.1 (.inl rfl),by show max e.dep 0+1≤_;have:=ih.2;omega⟩
 |bin d op a b ho ha hb iha ihb=>exact⟨bi2 iha.1 ihb.1 om om,by show max a.dep (max b.dep 0)+1≤_;have:=iha.2;have:=ihb.2;omega⟩
theorem Pj.fine(ok:c.Ok)(hnp:np≤2){d:Nat}{e:PE}(h:Pj c np d e):e.fine∧e.dep≤d+4:=by
 have hf:=ok.flags
 induction h with
 |tf d op h=>exact⟨lf0 om om (fun _ _=>rfl) om (fun _=>rfl),show 1≤d+4 by omega⟩
 |b0 d=>exact⟨lf0 om (fun _=>qB) om om (fun _=>rfl),show 1≤d+4 by omega⟩
 |flag d k h=>exact⟨lf0 om (fun _=>LQ om) om om (fun _=>rfl),show 1≤d+4 by omega⟩
 |has d e ht h=>have:=h.fine ok hnp;exact⟨tb1 this.1 Wy (.inr rfl),by show max e.dep 0+1≤_;omega⟩
 |not d e h ih=>exact⟨un1 (s:=nE) ih.1 (.inr rfl),by show max e.dep 0+1≤_;have:=ih.2;omega⟩
 |two d op a b ho ha hb iha ihb=>exact⟨bi2 iha.1 ihb.1 om om,by show max a.dep (max b.dep 0)+1≤_;have:=iha.2;have:=ihb.2;omega⟩
 |cmp d op a b ho ha hb=>have:=ha.fine ok hnp;have:=hb.fine ok hnp;exact⟨bi2 ‹a.fine∧_›.1 ‹b.fine∧_›.1 om om,by show max a.dep (max b.dep 0)+1≤_;omega⟩
end
theorem FH(e:Ex)(hlow:e.pure.low)(hd:e.pure.dep≤100)(ih:∀x∈e.args,x.pure.low→x.pure.dep≤100→Dz 172 [.agg (Bw x).toArray] [all (x.kids Bw)] (fun v Γ'=>v=nv x.pure.dep∧Γ'=[])):
    Dz 172 [.agg (Bw e).toArray] [all (e.kids Bw)] (fun v Γ'=>v=nv e.pure.dep∧Γ'=[]):=by
 obtain⟨hop,hal⟩:=Tw hlow
 refine Am func172 ntmps172 fun w0=>?_
 refine Js (To.g (Jbo fun b1=>?_))
 refine Jz 10 ?_
 refine To.one 1 rfl (ros Bw e.A e.args) rfl (Re e) (Jz 8 ?_)
 refine Cw (fun s g mz ρ Γ=>∃(m:Nat) (k:Nat),ρ=[s 1,(3,nv m),s 7,(8,nv k)]∧Γ=[g 1,g 0,g 2]∧mz=e.args.length-k∧(k≤e.args.length)∧(m=Nw (Cv (e.args.take k)))∧(m≤100)) ⟨⟨0,0,rfl,rfl,rfl,om,rfl,om⟩,sb⟩ ?_
 rintro mz _ _ ⟨m,k,rfl,rfl,rfl,hk,hm,hmb⟩
 refine Jz 6 ?_
 refine Jcp rfl ?_ ?_<;>intro c9
 obtain⟨x,hx⟩:=exg e.args k om
 have hxd:x.pure.dep≤100:=by
  have h:=jV (l:=Cv e.args) (x:=x.pure) (by rw[Bz];exact aEv.2 ⟨x,mog hx,rfl⟩)
  have h2:e.pure.dep=Nw (Cv e.args)+1:=by rw[Fu e];rfl
  omega
 refine Jz 10 ?_
 refine Db 2 rfl (x.kids Bw) (Ex.lax Bw x) (Sz hx) (Jz 7 ?_)
 refine Jqf (ih x (mog hx) (Qf hlow (mog hx)) hxd) (by show owns (x.kids Bw)++[]=[];rw[(Ex.lax Bw x).owns];rfl) (ocs (oca 0 rfl) (ocn _)) ?_
 rintro _ _ ⟨rfl,rfl⟩
 refine⟨rfl,?_⟩
 refine Jr (Cr (v':=nv (max m x.pure.dep)) (congrArg iv om) (Rd.max rfl rfl rfl)) ?_
 refine Jz 9 ?_
 refine Cg ⟨⟨(max m x.pure.dep),k+1,rfl,rfl,rfl,om,(by rw[Cf hx,Bz,aEq,←Bz];show _=Nw (Cv (e.args.take k)++[x.pure]);rw[dQ,←hm]),om⟩,sb⟩
 refine Jz 13 ?_
 refine Cu (Df (Du (Je1 results172 ?_)))
 have h2:e.pure.dep=m+1:=by rw[Fu e];show Nw (Cv e.args)+1=_;rw[hm,aEm om]
 rw[h2];exact⟨rfl,rfl⟩
theorem BL:∀e:Ex,e.pure.low→e.pure.dep≤100→Dz 172 [.agg (Bw e).toArray] [all (e.kids Bw)] (fun v Γ'=>v=nv e.pure.dep∧Γ'=[])
 |e,h1,h2=>FH e h1 h2 (fun x hx=>BL x)
termination_by e=>SizeOf.sizeOf e
decreasing_by
 cases e with
 | mk op s n A q l=>
   have:=aFq (show x∈l from hx)
   simp only[Ex.mk.sizeOf_spec]
   omega
theorem xU(P:OA)(e:Ex)(hf:e.Fine):
    Dz 176 [.pointer (some ⟨blk P,ofs P+0*4,none⟩)] [ros Bw P [e],glc] (fun v _=>v= .bool true):=by
 refine Am func176 ntmps176 fun w0=>?_
 refine Jz 10 ?_
 refine Jr (Ck (i:=0) rfl rfl QN rfl (gvt (f:=0) (rsg Hw (show([e]:List Ex)[0]?=some e from rfl)) rfl)) ?_
 refine Jqf (tY hf.o1 hf.o2) rfl (Nj 1 rfl) ?_
 rintro _ _ ⟨c1,d1,rfl,rfl⟩
 refine⟨rfl,?_⟩
 refine Jz 3 ?_
 refine Jal fun b3=>?_
 refine Jz 9 ?_
 refine JgB ?_ ?_<;>intro g16
 refine Jz 10 ?_
 refine Cu (Df (Du (Je1 results176 ?_)))
 rfl
 refine Jz 3 ?_
 refine Jr (Ck (i:=1) rfl rfl c9 rfl (gvt (rsg Hw (show([e]:List Ex)[0]?=some e from rfl)) rfl)) ?_
 refine Jvf (Jv (hf.nm1 (by simpa using g16))) rfl (Nj 2 rfl) ?_
 refine Jz 5 ?_
 refine Cu (Df (Du (Je1 results176 ?_)))
 rfl
theorem uE(P:OA)(e:Ex)(hf:e.Fine):
    Dz 177 [.pointer (some ⟨blk P,ofs P+0*4,none⟩)] [ros Bw P [e],glc] (fun v _=>v= .bool true):=by
 refine Am func177 ntmps177 fun w0=>?_
 refine Jz 10 ?_
 refine Jr (Ck (i:=0) rfl rfl QN rfl (gvt (f:=0) (rsg Hw (show([e]:List Ex)[0]?=some e from rfl)) rfl)) ?_
 refine Jqf (tY hf.o1 hf.o2) rfl (Nj 1 rfl) ?_
 rintro _ _ ⟨c1,d1,rfl,rfl⟩
 refine⟨rfl,?_⟩
 refine Jz 3 ?_
 refine Jal fun b3=>?_
 refine Jz 16 ?_
 refine Jfw [ros Bw P [e],box b3 [nv (xM.getD e.op 0), .bool (qC.getD e.op false),iv c1, .string d1] 356] [0,1,2,3,4,5,6,7,8] (ocs (oca 1 rfl) (ocs (oca 0 rfl) (ocn _))) ?_
 refine Jz 3 ?_
 refine Fw.f rfl (Ck (i:=0) rfl rfl Xk rfl (gvt (rsg Hw (show([e]:List Ex)[0]?=some e from rfl)) rfl)) ?_
 refine Jz 3 ?_
 refine Fw.f rfl (Cr (v':= .bool false) (congrArg Value.bool (aEo (fun h=>h (by rw[hf.args])))) (Rd.neq rfl rfl rfl)) ?_
 refine Jz 8 ?_
 refine JgB ?_ ?_<;>intro g27
 refine Jz 3 ?_
 refine Jr (Ck (i:=1) rfl rfl c9 rfl (gvt (rsg Hw (show([e]:List Ex)[0]?=some e from rfl)) rfl)) ?_
 refine Jr (Cr (v':= .bool false) (congrArg Value.bool (aEo (fun h=>h (hf.nm2 (by simpa using g27))))) (pW rfl rfl rfl)) ?_
 refine Jz 10 ?_
 refine Jr (Ck (i:=1) rfl rfl QN rfl (gvt (f:=0) (rsg Hw (show([e]:List Ex)[0]?=some e from rfl)) rfl)) ?_
 refine Jz 4 ?_
 refine Jcp rfl ?_ ?_<;>intro c34
 refine Jz 5 ?_
 refine Jr (Ck (i:=1) rfl rfl c2 rfl (gvt (rsg Hw (show([e]:List Ex)[0]?=some e from rfl)) rfl)) ?_
 refine Jr (Cr (v':= .bool true) (congrArg Value.bool (aEk (hf.n1 om))) (Rd.geq rfl rfl rfl)) ?_
 refine Jz 6 ?_
 refine Cu (Df (Du (Je1 results177 ?_)))
 rfl
 refine Jz 8 ?_
 refine Jr (Ck (i:=1) rfl rfl c2 rfl (gvt (rsg Hw (show([e]:List Ex)[0]?=some e from rfl)) rfl)) ?_
 refine Jr (Cr (v':= .bool true) (congrArg Value.bool (aEk (hf.n2 om))) (Rd.eql rfl rfl rfl)) ?_
 refine Jz 4 ?_
 refine Cu (Df (Du (Je1 results177 ?_)))
 rfl
 refine Jz 15 ?_
 refine Jr (Ck (i:=1) rfl rfl QN rfl (gvt (f:=0) (rsg Hw (show([e]:List Ex)[0]?=some e from rfl)) rfl)) ?_
 refine Jz 4 ?_
 refine Jcp rfl ?_ ?_<;>intro c34
 refine Jz 5 ?_
 refine Jr (Ck (i:=1) rfl rfl c2 rfl (gvt (rsg Hw (show([e]:List Ex)[0]?=some e from rfl)) rfl)) ?_
 refine Jr (Cr (v':= .bool true) (congrArg Value.bool (aEk (hf.n1 om))) (Rd.geq rfl rfl rfl)) ?_
 refine Jz 6 ?_
 refine Cu (Df (Du (Je1 results177 ?_)))
 rfl
 refine Jz 8 ?_
 refine Jr (Ck (i:=1) rfl rfl c2 rfl (gvt (rsg Hw (show([e]:List Ex)[0]?=some e from rfl)) rfl)) ?_
 refine Jr (Cr (v':= .bool true) (congrArg Value.bool (aEk (hf.n2 om))) (Rd.eql rfl rfl rfl)) ?_
 refine Jz 4 ?_
 refine Cu (Df (Du (Je1 results177 ?_)))
 rfl
theorem FI(e:Ex)(hlow:e.pure.low)(hfin:e.pure.fine)(ih:∀x∈e.args,∀P:OA,x.pure.low→x.pure.fine→Dz 197 [.pointer (some ⟨blk P,ofs P+0*4,none⟩), .func (.func 176) #[] #[]] [ros Bw P [x],all (x.kids Bw),glc] (fun v Γ'=>v= .bool true∧Γ'=[]))(P:OA):
    Dz 197 [.pointer (some ⟨blk P,ofs P+0*4,none⟩), .func (.func 176) #[] #[]] [ros Bw P [e],all (e.kids Bw),glc] (fun v Γ'=>v= .bool true∧Γ'=[]):=by
 obtain⟨hop,hal⟩:=Tw hlow
 have hf:=jW hfin
 refine Am func197 ntmps197 fun w0=>?_
 refine Jz 10 ?_
 refine JcV rfl rfl rfl (Ent.func (first:=[]) (captured:=[]) rfl rfl rfl (kc.h 176 rfl)) (xU P e hf) rfl (ocs (oca 0 rfl) (ocs (oca 2 rfl) (ocn _))) (Jz 8 ?_)
 refine To.one 1 rfl (ros Bw e.A e.args) rfl (Re e) (Jz 4 ?_)
 refine Jr (Ck (i:=1) rfl rfl Xk rfl (gvt (rsg Hw (show([e]:List Ex)[0]?=some e from rfl)) rfl)) ?_
 refine Jz 5 ?_
 refine Cw (fun s g mz ρ Γ=>∃(k:Nat),ρ=[s 0,s 1,s 14,(15,nv k)]∧Γ=[g 1,g 0,g 2,glc]∧mz=e.args.length-k∧(k≤e.args.length)) ⟨⟨0,rfl,rfl,rfl,om⟩,sb⟩ ?_
 rintro mz _ _ ⟨k,rfl,rfl,rfl,hk⟩
 refine Jz 6 ?_
 refine Jcp rfl ?_ ?_<;>intro c16
 obtain⟨x,hx⟩:=exg e.args k om
 refine Jz 11 ?_
 refine Yk Hw (by decide) 1 rfl hx (Db 3 rfl (x.kids Bw) (Ex.lax Bw x) (Sz hx) (Jz 4 ?_))
 refine Jr (Ck (i:=2) rfl rfl Xk rfl (gvt (rsg Hw (show([e]:List Ex)[0]?=some e from rfl)) rfl)) ?_
 refine Jz 3 ?_
 refine Jqf (ih x (mog hx) (some ⟨blk e.A,ofs e.A+k*4,none⟩) (Qf hlow (mog hx)) (dS hfin (mog hx))) (by show[]++(owns (x.kids Bw)++(owns gl++[]))=[];rw[(Ex.lax Bw x).owns];rfl) (ocs (oca 1 rfl) (ocs (oca 0 rfl) (ocs (oca 5 rfl) (ocn _)))) ?_
 rintro _ _ ⟨rfl,rfl⟩
 refine⟨rfl,?_⟩
 refine Jz 12 ?_
 refine Cg ⟨⟨k+1,rfl,rfl,rfl,om⟩,sb⟩
 refine Jz 11 ?_
 refine Dl (Cu (Df (Du (Je1 results197 ?_))))
 exact⟨rfl,rfl⟩
theorem BM:∀(e:Ex) (P:OA),e.pure.low→e.pure.fine→Dz 197 [.pointer (some ⟨blk P,ofs P+0*4,none⟩), .func (.func 176) #[] #[]] [ros Bw P [e],all (e.kids Bw),glc] (fun v Γ'=>v= .bool true∧Γ'=[])
 |e,P,h1,h2=>FI e h1 h2 (fun x hx=>BM x) P
termination_by e=>SizeOf.sizeOf e
decreasing_by
 cases e with
 | mk op s n A q l=>
   have:=aFq (show x∈l from hx)
   simp only[Ex.mk.sizeOf_spec]
   omega
theorem SC(P:OA)(s:St)(hle:s.exprs.length≤4)(hlow:Kk (Cv s.exprs))(hfin:Pn (Cv s.exprs)):
    Dz 175 [.pointer (some ⟨blk P,ofs P+0*6,none⟩), .func (.func 176) #[] #[]] [ros Dh P [s],all (lsF Bw s.A s.exprs),glc] (fun v Γ'=>v= .bool true∧Γ'=[]):=by
 refine Am func175 ntmps175 fun w0=>?_
 refine Jz 7 ?_
 refine To.one 1 rfl (ros Bw s.A s.exprs) rfl (aEd ..) (Jz 4 ?_)
 refine Jr (Ck (i:=1) rfl rfl Xk rfl (gvt (rsg Jh (show([s]:List St)[0]?=some s from rfl)) rfl)) ?_
 refine Jz 5 ?_
 refine Cw (fun u g mz ρ Γ=>∃(k:Nat),ρ=[u 0,u 1,u 10,(11,nv k)]∧Γ=[g 1,g 0,g 2,glc]∧mz=s.exprs.length-k∧(k≤s.exprs.length)) ⟨⟨0,rfl,rfl,rfl,om⟩,sb⟩ ?_
 rintro mz _ _ ⟨k,rfl,rfl,rfl,hk⟩
 refine Jz 6 ?_
 refine Jcp rfl ?_ ?_<;>intro c12
 obtain⟨x,hx⟩:=exg s.exprs k om
 refine Jz 11 ?_
 refine Yk Hw (by decide) 1 rfl hx (Db 3 rfl (x.kids Bw) (Ex.lax Bw x) (Yo hx) (Jz 4 ?_))
 refine Jr (Ck (i:=2) rfl rfl Xk rfl (gvt (rsg Jh (show([s]:List St)[0]?=some s from rfl)) rfl)) ?_
 refine Jz 3 ?_
 refine Jqf (BM x (some ⟨blk s.A,ofs s.A+k*4,none⟩) (Ob hlow (mog hx)) (dU hfin (mog hx))) (by show[]++(owns (x.kids Bw)++(owns gl++[]))=[];rw[(Ex.lax Bw x).owns];rfl) (ocs (oca 1 rfl) (ocs (oca 0 rfl) (ocs (oca 5 rfl) (ocn _)))) ?_
 rintro _ _ ⟨rfl,rfl⟩
 refine⟨rfl,?_⟩
 refine Jz 12 ?_
 refine Cg ⟨⟨k+1,rfl,rfl,rfl,om⟩,sb⟩
 refine Jz 11 ?_
 refine Dl (Cu (Df (Du (Je1 results175 ?_))))
 exact⟨rfl,rfl⟩
theorem FJ(e:Ex)(hlow:e.pure.low)(hfin:e.pure.fine)(ih:∀x∈e.args,∀P:OA,x.pure.low→x.pure.fine→Dz 197 [.pointer (some ⟨blk P,ofs P+0*4,none⟩), .func (.func 177) #[] #[]] [ros Bw P [x],all (x.kids Bw),glc] (fun v Γ'=>v= .bool true∧Γ'=[]))(P:OA):
    Dz 197 [.pointer (some ⟨blk P,ofs P+0*4,none⟩), .func (.func 177) #[] #[]] [ros Bw P [e],all (e.kids Bw),glc] (fun v Γ'=>v= .bool true∧Γ'=[]):=by
 obtain⟨hop,hal⟩:=Tw hlow
 have hf:=jW hfin
 refine Am func197 ntmps197 fun w0=>?_
 refine Jz 10 ?_
 refine JcV rfl rfl rfl (Ent.func (first:=[]) (captured:=[]) rfl rfl rfl (kc.h 177 rfl)) (uE P e hf) rfl (ocs (oca 0 rfl) (ocs (oca 2 rfl) (ocn _))) (Jz 8 ?_)
 refine To.one 1 rfl (ros Bw e.A e.args) rfl (Re e) (Jz 4 ?_)
 refine Jr (Ck (i:=1) rfl rfl Xk rfl (gvt (rsg Hw (show([e]:List Ex)[0]?=some e from rfl)) rfl)) ?_
 refine Jz 5 ?_
 refine Cw (fun s g mz ρ Γ=>∃(k:Nat),ρ=[s 0,s 1,s 14,(15,nv k)]∧Γ=[g 1,g 0,g 2,glc]∧mz=e.args.length-k∧(k≤e.args.length)) ⟨⟨0,rfl,rfl,rfl,om⟩,sb⟩ ?_
 rintro mz _ _ ⟨k,rfl,rfl,rfl,hk⟩
 refine Jz 6 ?_
 refine Jcp rfl ?_ ?_<;>intro c16
 obtain⟨x,hx⟩:=exg e.args k om
 refine Jz 11 ?_
 refine Yk Hw (by decide) 1 rfl hx (Db 3 rfl (x.kids Bw) (Ex.lax Bw x) (Sz hx) (Jz 4 ?_))
 refine Jr (Ck (i:=2) rfl rfl Xk rfl (gvt (rsg Hw (show([e]:List Ex)[0]?=some e from rfl)) rfl)) ?_
 refine Jz 3 ?_
 refine Jqf (ih x (mog hx) (some ⟨blk e.A,ofs e.A+k*4,none⟩) (Qf hlow (mog hx)) (dS hfin (mog hx))) (by show[]++(owns (x.kids Bw)++(owns gl++[]))=[];rw[(Ex.lax Bw x).owns];rfl) (ocs (oca 1 rfl) (ocs (oca 0 rfl) (ocs (oca 5 rfl) (ocn _)))) ?_
 rintro _ _ ⟨rfl,rfl⟩
 refine⟨rfl,?_⟩
 refine Jz 12 ?_
 refine Cg ⟨⟨k+1,rfl,rfl,rfl,om⟩,sb⟩
 refine Jz 11 ?_
 refine Dl (Cu (Df (Du (Je1 results197 ?_))))
 exact⟨rfl,rfl⟩
theorem BN:∀(e:Ex) (P:OA),e.pure.low→e.pure.fine→Dz 197 [.pointer (some ⟨blk P,ofs P+0*4,none⟩), .func (.func 177) #[] #[]] [ros Bw P [e],all (e.kids Bw),glc] (fun v Γ'=>v= .bool true∧Γ'=[])
 |e,P,h1,h2=>FJ e h1 h2 (fun x hx=>BN x) P
termination_by e=>SizeOf.sizeOf e
decreasing_by
 cases e with
 | mk op s n A q l=>
   have:=aFq (show x∈l from hx)
   simp only[Ex.mk.sizeOf_spec]
   omega
theorem SE(P:OA)(s:St)(hle:s.exprs.length≤4)(hlow:Kk (Cv s.exprs))(hfin:Pn (Cv s.exprs)):
    Dz 175 [.pointer (some ⟨blk P,ofs P+0*6,none⟩), .func (.func 177) #[] #[]] [ros Dh P [s],all (lsF Bw s.A s.exprs),glc] (fun v Γ'=>v= .bool true∧Γ'=[]):=by
 refine Am func175 ntmps175 fun w0=>?_
 refine Jz 7 ?_
 refine To.one 1 rfl (ros Bw s.A s.exprs) rfl (aEd ..) (Jz 4 ?_)
 refine Jr (Ck (i:=1) rfl rfl Xk rfl (gvt (rsg Jh (show([s]:List St)[0]?=some s from rfl)) rfl)) ?_
 refine Jz 5 ?_
 refine Cw (fun u g mz ρ Γ=>∃(k:Nat),ρ=[u 0,u 1,u 10,(11,nv k)]∧Γ=[g 1,g 0,g 2,glc]∧mz=s.exprs.length-k∧(k≤s.exprs.length)) ⟨⟨0,rfl,rfl,rfl,om⟩,sb⟩ ?_
 rintro mz _ _ ⟨k,rfl,rfl,rfl,hk⟩
 refine Jz 6 ?_
 refine Jcp rfl ?_ ?_<;>intro c12
 obtain⟨x,hx⟩:=exg s.exprs k om
 refine Jz 11 ?_
 refine Yk Hw (by decide) 1 rfl hx (Db 3 rfl (x.kids Bw) (Ex.lax Bw x) (Yo hx) (Jz 4 ?_))
 refine Jr (Ck (i:=2) rfl rfl Xk rfl (gvt (rsg Jh (show([s]:List St)[0]?=some s from rfl)) rfl)) ?_
 refine Jz 3 ?_
 refine Jqf (BN x (some ⟨blk s.A,ofs s.A+k*4,none⟩) (Ob hlow (mog hx)) (dU hfin (mog hx))) (by show[]++(owns (x.kids Bw)++(owns gl++[]))=[];rw[(Ex.lax Bw x).owns];rfl) (ocs (oca 1 rfl) (ocs (oca 0 rfl) (ocs (oca 5 rfl) (ocn _)))) ?_
 rintro _ _ ⟨rfl,rfl⟩
 refine⟨rfl,?_⟩
 refine Jz 12 ?_
 refine Cg ⟨⟨k+1,rfl,rfl,rfl,om⟩,sb⟩
 refine Jz 11 ?_
 refine Dl (Cu (Df (Du (Je1 results175 ?_))))
 exact⟨rfl,rfl⟩
def qL(l:List PE):Prop:=Pn l∧∀e∈l,e.dep≤8
mutual
def PS.sdep:PS→Nat
 |⟨_,_,_,_,t,e⟩=>max (Dr t) (Dr e)+1
def Dr:List PS→Nat
 |[]=>0
 |s::r=>max (PS.sdep s) (Dr r)
end
theorem aM:∀(l:List PS) (x:PS),Dr (l++[x])=max (Dr l) x.sdep
 |[],x=>by show max x.sdep 0=max 0 x.sdep;omega
 |e::r,x=>by show max e.sdep (Dr (r++[x]))=max (max e.sdep (Dr r)) x.sdep;rw[aM r x];omega
theorem dV:∀{l:List PS} {x:PS},x∈l→x.sdep≤Dr l
 | e::r,x,h=>by
   show x.sdep≤max e.sdep (Dr r)
   rcases aEi.1 h with rfl|h
   ·omega
   ·have:=dV h;omega
theorem Mo{n:Nat}:∀{l:List PS},(∀s∈l,s.sdep≤n)→Dr l≤n
 |[],_=>aEw _
 | e::r,h=>by
   show max e.sdep (Dr r)≤n
   have h1:=h e (aEd ..)
   have h2:=Mo (l:=r) fun s hs=>h s (aEb _ hs)
   omega
mutual
def PS.fine:PS→Prop
 |⟨k,s,h,es,t,e⟩=>((1≤k∧k≤10)∧((frm k).2.2.1≤es.length∧es.length≤(frm k).2.2.2.1)∧qL es)∧(((frm k).1=true→Qt s)∧((frm k).1=false→s=nE))∧(((frm k).2.1=true→Qt h)∧((frm k).2.1=false→h=nE))∧(((frm k).2.2.2.2.1=false→t=[])∧((frm k).2.2.2.2.2=false→e=[]))∧Gy t∧Gy e
def Gy:List PS→Prop
 |[]=>True
 |s::r=>PS.fine s∧Gy r
end
theorem aN:∀{l:List PS},Gy l→∀x∈l,x.fine
 |[],_,x,h=>by cases h
 | e::r,h,x,hx=>by
   rcases aEi.1 hx with rfl|hx
   ·exact h.1
   ·exact aN h.2 x hx
theorem Mq:∀{l:List PS},(∀x∈l,x.fine)→Gy l
 |[],_=>trivial
 |e::r,h=>⟨h e (aEd ..),Mq fun x hx=>h x (aEb _ hx)⟩
structure St.Fine(s:St):Prop where
 k1:1≤s.kind
 k2:s.kind≤10
 least:(frm s.kind).2.2.1≤s.exprs.length
 most:s.exprs.length≤(frm s.kind).2.2.2.1
 exprs:Pn (Cv s.exprs)
 deps:∀x∈s.exprs,x.pure.dep≤8
 nm1:(frm s.kind).1=true→Qt s.name
 nm2:(frm s.kind).1=false→s.name=nE
 hd1:(frm s.kind).2.1=true→Qt s.hand
 hd2:(frm s.kind).2.1=false→s.hand=nE
 thn:(frm s.kind).2.2.2.2.1=false→s.thn=[]
 els:(frm s.kind).2.2.2.2.2=false→s.els=[]
theorem mZ{l:List St}(h:Ba l=[]):l=[]:=by
 cases l with
 |nil=>rfl
 |cons a r=>cases h
theorem Yr{s:St}(h:s.pure.fine):s.Fine∧Gy (Ba s.thn)∧Gy (Ba s.els):=by
 rw[Nh]at h
 obtain⟨⟨⟨h1,h2⟩,⟨h3,h4⟩,h5,h6⟩,⟨h7,h8⟩,⟨h9,h10⟩,⟨h11,h12⟩,h13,h14⟩:=h
 rw[Bz,aEg]at h3 h4
 exact⟨⟨h1,h2,h3,h4,h5,fun x hx=>h6 x.pure (by rw[Bz];exact aEv.2 ⟨x,hx,rfl⟩),h7,h8,h9,h10,fun h=>mZ (h11 h),fun h=>mZ (h12 h)⟩,h13,h14⟩
theorem Wj{l:List St}(h:Gy (Ba l)){x:St}(hx:x∈l):x.pure.fine:=aN h x.pure (by rw[Je];exact aEv.2 ⟨x,hx,rfl⟩)
section
variable{c:Ct}{np:Nat}
theorem ok1{e:PE}(h:e.fine∧e.dep≤8):qL [e]:=⟨⟨h.1,trivial⟩,fun x hx=>by rw[aEr.1 hx];exact h.2⟩
theorem ok2{a b:PE}(h:a.fine∧a.dep≤8)(h2:b.fine∧b.dep≤8):qL [a,b]:=⟨⟨h.1,h2.1,trivial⟩,fun x hx=>by
 rcases aEi.1 hx with rfl|hx
 ·exact h.2
 ·rw[aEr.1 hx];exact h2.2⟩
theorem okl{l:List PE}(h:∀e∈l,e.fine∧e.dep≤8):qL l:=⟨dR fun x hx=>(h x hx).1,fun x hx=>(h x hx).2⟩
theorem StE.fine(ok:c.Ok)(hnp:np≤2){d:Nat}{s:PS}(h:StE c np d s):s.fine∧s.sdep≤d+1:=by
 have hi:=ok.ints
 have I {d:Nat} {e:PE} (h:Kh c np d e) (hd:d≤3):e.fine∧e.dep≤8:=⟨(h.fine ok hnp).1,by have:=(h.fine ok hnp).2;omega⟩
 have B {d:Nat} {e:PE} (h:Pj c np d e) (hd:d≤3):e.fine∧e.dep≤8:=⟨(h.fine ok hnp).1,by have:=(h.fine ok hnp).2;omega⟩
 have par {to h n:Nat} {ar:List Nat} (ha:c.ars[to]?=some ar) (hh:ar[h]?=some n):n≤2∧h<3∧to<3:=by
  have h1:=ok.each ar (mog ha)
  have h2:=(aEc.1 hh).1
  have h3:=(aEc.1 ha).1
  have h4:=ok.some
  exact⟨h1.2.2 n (mog hh),by omega,by omega⟩
 have nn (p:Prop):(false=true→p):=fun h=>by cases h
 have nt (p:Prop):(true=false→p):=fun h=>by cases h
 induction h with
 |setB d e h=>exact⟨⟨⟨by decide,⟨aEu _,aEu _⟩,ok1 (B h om)⟩,⟨fun _=>qB,nt _⟩,⟨nn _,fun _=>rfl⟩,⟨fun _=>rfl,fun _=>rfl⟩,trivial,trivial⟩,show 1≤d+1 by omega⟩
 |setX d k e hk h=>exact⟨⟨⟨by decide,⟨aEu _,aEu _⟩,ok1 (I h om)⟩,⟨fun _=>pY om,nt _⟩,⟨nn _,fun _=>rfl⟩,⟨fun _=>rfl,fun _=>rfl⟩,trivial,trivial⟩,show 1≤d+1 by omega⟩
 |put d a b ht ha hb=>exact⟨⟨⟨by decide,⟨aEu _,aEu _⟩,ok2 (I ha om) (I hb om)⟩,⟨fun _=>Wy,nt _⟩,⟨nn _,fun _=>rfl⟩,⟨fun _=>rfl,fun _=>rfl⟩,trivial,trivial⟩,show 1≤d+1 by omega⟩
 |del d a ht ha=>exact⟨⟨⟨by decide,⟨aEu _,aEu _⟩,ok1 (I ha om)⟩,⟨fun _=>Wy,nt _⟩,⟨nn _,fun _=>rfl⟩,⟨fun _=>rfl,fun _=>rfl⟩,trivial,trivial⟩,show 1≤d+1 by omega⟩
 | ife d e t l h ht hl iht ihl=>
   refine⟨⟨⟨by decide,⟨aEu _,aEu _⟩,ok1 (B h om)⟩,⟨nn _,fun _=>rfl⟩,⟨nn _,fun _=>rfl⟩,⟨nt _,nt _⟩,Mq fun x hx=>(iht x hx).1,Mq fun x hx=>(ihl x hx).1⟩,?_⟩
   have h1:=Mo fun x hx=>(iht x hx).2
   have h2:=Mo fun x hx=>(ihl x hx).2
   show max (Dr t) (Dr l)+1≤_
   omega
 | whl d e t h ht iht=>
   refine⟨⟨⟨by decide,⟨aEu _,aEu _⟩,ok1 (B h om)⟩,⟨nn _,fun _=>rfl⟩,⟨nn _,fun _=>rfl⟩,⟨nt _,fun _=>rfl⟩,Mq fun x hx=>(iht x hx).1,trivial⟩,?_⟩
   have h1:=Mo fun x hx=>(iht x hx).2
   show max (Dr t) 0+1≤_
   omega
 | send d to h ar l ha hh hl=>
   obtain⟨p1,p2,p3⟩:=par ha hh
   exact⟨⟨⟨by decide,⟨aEw _,by show l.length≤4;omega⟩,okl fun x hx=>I (hl x hx) om⟩,⟨fun _=>qA p3,nt _⟩,⟨fun _=>xL p2,nt _⟩,⟨fun _=>rfl,fun _=>rfl⟩,trivial,trivial⟩,show 1≤d+1 by omega⟩
 | after d h ar e l ha hh he hl=>
   obtain⟨p1,p2,p3⟩:=par ha hh
   refine⟨⟨⟨by decide,⟨by show 1≤l.length+1;omega,by show l.length+1≤5;omega⟩,okl fun x hx=>?_⟩,⟨nn _,fun _=>rfl⟩,⟨fun _=>xL p2,nt _⟩,⟨fun _=>rfl,fun _=>rfl⟩,trivial,trivial⟩,show 1≤d+1 by omega⟩
   rcases aEi.1 hx with rfl|hx
   ·exact I he om
   ·exact I (hl x hx) om
 | store d a b l ha hb hl ihl=>
   refine⟨⟨⟨by decide,⟨aEu _,aEu _⟩,ok2 (I ha om) (I hb om)⟩,⟨nn _,fun _=>rfl⟩,⟨nn _,fun _=>rfl⟩,⟨fun _=>rfl,nt _⟩,trivial,Mq fun x hx=>(ihl x hx).1⟩,?_⟩
   have h1:=Mo fun x hx=>(ihl x hx).2
   show max 0 (Dr l)+1≤_
   omega
 | fetch d k e l hk h hl ihl=>
   refine⟨⟨⟨by decide,⟨aEu _,aEu _⟩,ok1 (I h om)⟩,⟨fun _=>pY om,nt _⟩,⟨nn _,fun _=>rfl⟩,⟨fun _=>rfl,nt _⟩,trivial,Mq fun x hx=>(ihl x hx).1⟩,?_⟩
   have h1:=Mo fun x hx=>(ihl x hx).2
   show max 0 (Dr l)+1≤_
   omega
 |stop d=>exact⟨⟨⟨by decide,⟨aEu _,aEu _⟩,trivial,fun x hx=>by cases hx⟩,⟨nn _,fun _=>rfl⟩,⟨nn _,fun _=>rfl⟩,⟨fun _=>rfl,fun _=>rfl⟩,trivial,trivial⟩,show 1≤d+1 by omega⟩
end
theorem FK(l:List St)(ih:∀x∈l,(∀(A:OA) (q:Nat),x.thn.length≤12→Dy (Ba x.thn)→Ca (Ba x.thn)≤100→Dz 169 [vs A x.thn q] [all (lsG Bw Dh A x.thn)] (fun v Γ'=>v=nv (Ca (Ba x.thn))∧Γ'=[]))∧(∀(A:OA) (q:Nat),x.els.length≤12→Dy (Ba x.els)→Ca (Ba x.els)≤100→Dz 169 [vs A x.els q] [all (lsG Bw Dh A x.els)] (fun v Γ'=>v=nv (Ca (Ba x.els))∧Γ'=[])))(A:OA)(q:Nat)(hl:l.length≤12)(hlow:Dy (Ba l))(hb:Ca (Ba l)≤100):
    Dz 169 [vs A l q] [all (lsG Bw Dh A l)] (fun v Γ'=>v=nv (Ca (Ba l))∧Γ'=[]):=by
 refine Am func169 ntmps169 fun w0=>?_
 refine Jz 14 ?_
 refine To.one 0 rfl (ros Dh A l) rfl (aEd ..) (Jz 7 ?_)
 refine Lf (fun s g mz ρ Γ=>∃(m:Nat) (k:Nat),ρ=[s 0,(3,nv m),s 8,(9,nv k)]∧Γ=[g 0,g 1]∧mz=l.length-k∧(k≤l.length)∧(m+k=l.length+Ca (Ba (l.take k)))) ⟨⟨l.length,0,rfl,rfl,rfl,om,rfl⟩,sb⟩ ?_
 rintro mz _ _ ⟨m,k,rfl,rfl,rfl,hk,hm⟩
 have hmb:Ca (Ba (l.take k))≤100:=by
  have h1:Ba l=Ba (l.take k)++Ba (l.drop k):=by rw[Je,Je,Je,←aEq,aFs]
  rw[h1,Qs]at hb
  omega
 refine Jz 6 ?_
 refine Jcp rfl ?_ ?_<;>intro c10
 obtain⟨x,hx⟩:=exg l k om
 obtain⟨hxk,⟨hxe,hxl⟩,⟨hxt,hxtl⟩,hxn,hxnl⟩:=Qg (Oc hlow (mog hx))
 have hxm:x.pure∈Ba l:=by rw[Je];exact aEv.2 ⟨x,mog hx,rfl⟩
 have htk:Ba (l.take (k+1))=Ba (l.take k)++[x.pure]:=by rw[Cf hx,Je,aEq,←Je];rfl
 have hxc:PS.cnt x.pure=1+Ca (Ba x.thn)+Ca (Ba x.els):=by rw[Nh x];rfl
 have hxc2:=fH hxm
 have hxa:Ca (Ba x.thn)≤100:=om
 have hxb:Ca (Ba x.els)≤100:=om
 have hcx:Ca (Ba (l.take (k+1)))=Ca (Ba (l.take k))+PS.cnt x.pure:=by rw[htk,Qs];show _+(PS.cnt x.pure+0)=_;omega
 refine Jz 10 ?_
 refine Db 1 rfl (lsG Bw Dh x.Ae x.els) (Dx _ _ _ _) (fun c hc=>Kw hx c (Ji x c hc)) (Db 2 rfl (lsG Bw Dh x.At x.thn) (Dx _ _ _ _) (fun c hc=>Kw hx c (Kj x c hc)) (Pp [ros Dh A l] [⟨0,[],0⟩,⟨1,[],0⟩,⟨2,[],0⟩,⟨7,[],0⟩,⟨8,[],0⟩,⟨3,[],1⟩,⟨4,[],0⟩,⟨5,[],0⟩,⟨6,[],4⟩,⟨9,[],1⟩,⟨10,[],0⟩,⟨11,[],0⟩,⟨12,[6],4⟩,⟨13,[6,12],0⟩,⟨14,[6,12],0⟩,⟨15,[6,12],0⟩] mixed.h (by kernel_rfl) (ocs (oca 2 rfl) (ocn _)) (Jz 8 ?_)))
 refine Gj rfl rfl rfl rfl rfl .fc ((ih x (mog hx)).1 x.At x.qt hxt hxtl hxa) (by show owns (lsG Bw Dh x.At x.thn)++[]=[];rw[(Dx Bw Dh x.At x.thn).owns];rfl) (ocs (oca 0 rfl) (ocn _)) ?_
 rintro _ _ ⟨rfl,rfl⟩
 refine⟨rfl,?_⟩
 refine Jz 3 ?_
 refine Gj rfl rfl rfl rfl rfl .fc ((ih x (mog hx)).2 x.Ae x.qe hxn hxnl hxb) (by show owns (lsG Bw Dh x.Ae x.els)++[]=[];rw[(Dx Bw Dh x.Ae x.els).owns];rfl) (ocs (oca 1 rfl) (ocn _)) ?_
 rintro _ _ ⟨rfl,rfl⟩
 refine⟨rfl,?_⟩
 refine Fw.f rfl (Ns (a:=(Ca (Ba x.thn))) (b:=(Ca (Ba x.els))) rfl rfl rfl om) ?_
 refine Fw.f rfl (Ns (a:=m) (b:=((Ca (Ba x.thn))+(Ca (Ba x.els)))) rfl rfl rfl om) ?_
 refine Jz 9 ?_
 refine Cg ⟨⟨(m+(Ca (Ba x.thn)+Ca (Ba x.els))),k+1,rfl,rfl,rfl,om,(by rw[hcx,hxc];omega)⟩,sb⟩
 refine Jz 12 ?_
 refine Df (Du (Je1 results169 ?_))
 have h2:m=Ca (Ba l):=by rw[show k=l.length by omega,List.take_length]at hm;omega
 rw[h2];exact⟨rfl,rfl⟩
theorem qM:∀l:List St,∀(A:OA) (q:Nat),l.length≤12→Dy (Ba l)→Ca (Ba l)≤100→Dz 169 [vs A l q] [all (lsG Bw Dh A l)] (fun v Γ'=>v=nv (Ca (Ba l))∧Γ'=[])
 |l,A,q,h1,h2,h3=>FK l (fun x hx=>⟨qM x.thn,qM x.els⟩) A q h1 h2 h3
termination_by l=>SizeOf.sizeOf l
decreasing_by
 all_goals
  have h:=aFq hx
  have:SizeOf.sizeOf x.thn<SizeOf.sizeOf x∧SizeOf.sizeOf x.els<SizeOf.sizeOf x:=by cases x;simp only[St.mk.sizeOf_spec];omega
  omega
theorem xV(l:List St)(ih:∀x∈l,(∀(A:OA) (q:Nat),x.thn.length≤12→Dy (Ba x.thn)→Dr (Ba x.thn)≤100→Dz 170 [vs A x.thn q] [all (lsG Bw Dh A x.thn)] (fun v Γ'=>v=nv (Dr (Ba x.thn))∧Γ'=[]))∧(∀(A:OA) (q:Nat),x.els.length≤12→Dy (Ba x.els)→Dr (Ba x.els)≤100→Dz 170 [vs A x.els q] [all (lsG Bw Dh A x.els)] (fun v Γ'=>v=nv (Dr (Ba x.els))∧Γ'=[])))(A:OA)(q:Nat)(hl:l.length≤12)(hlow:Dy (Ba l))(hb:Dr (Ba l)≤100):
    Dz 170 [vs A l q] [all (lsG Bw Dh A l)] (fun v Γ'=>v=nv (Dr (Ba l))∧Γ'=[]):=by
 refine Am func170 ntmps170 fun w0=>?_
 refine Jz 13 ?_
 refine Jcp rfl ?_ ?_<;>intro c7
 refine Jz 7 ?_
 refine Du (Je1 results170 ?_)
 have h0:l=[]:=aFp om
 subst h0
 exact⟨rfl,rfl⟩
 refine Jz 9 ?_
 refine To.one 0 rfl (ros Dh A l) rfl (aEd ..) (Jz 7 ?_)
 refine Lf (fun s g mz ρ Γ=>∃(m:Nat) (k:Nat),ρ=[s 0,(3,nv m),s 9,(10,nv k)]∧Γ=[g 0,g 1]∧mz=l.length-k∧(k≤l.length)∧(Dr (Ba (l.take k))=if k=0 then 0 else m+1)∧(k=0→m=0)∧(m≤100)) ⟨⟨0,0,rfl,rfl,rfl,om,rfl,(fun _=>rfl),om⟩,sb⟩ ?_
 rintro mz _ _ ⟨m,k,rfl,rfl,rfl,hk,hm,hm0,hmb⟩
 refine Jz 6 ?_
 refine Jcp rfl ?_ ?_<;>intro c11
 obtain⟨x,hx⟩:=exg l k om
 obtain⟨hxk,⟨hxe,hxl⟩,⟨hxt,hxtl⟩,hxn,hxnl⟩:=Qg (Oc hlow (mog hx))
 have hxm:x.pure∈Ba l:=by rw[Je];exact aEv.2 ⟨x,mog hx,rfl⟩
 have htk:Ba (l.take (k+1))=Ba (l.take k)++[x.pure]:=by rw[Cf hx,Je,aEq,←Je];rfl
 have hxc:PS.sdep x.pure=max (Dr (Ba x.thn)) (Dr (Ba x.els))+1:=by rw[Nh x];rfl
 have hxc2:=dV hxm
 have hxa:Dr (Ba x.thn)≤100:=om
 have hxb:Dr (Ba x.els)≤100:=om
 have hcx:Dr (Ba (l.take (k+1)))=max (Dr (Ba (l.take k))) (PS.sdep x.pure):=by rw[htk,aM]
 refine Jz 10 ?_
 refine Db 1 rfl (lsG Bw Dh x.Ae x.els) (Dx _ _ _ _) (fun c hc=>Kw hx c (Ji x c hc)) (Db 2 rfl (lsG Bw Dh x.At x.thn) (Dx _ _ _ _) (fun c hc=>Kw hx c (Kj x c hc)) (Pp [ros Dh A l] [⟨0,[],0⟩,⟨1,[],0⟩,⟨2,[],0⟩,⟨7,[],0⟩,⟨8,[],0⟩,⟨3,[],1⟩,⟨4,[],0⟩,⟨5,[],0⟩,⟨6,[],4⟩,⟨9,[],1⟩,⟨10,[],0⟩,⟨11,[],0⟩,⟨12,[6],4⟩,⟨13,[6,12],0⟩,⟨14,[6,12],0⟩] mixed.h (by kernel_rfl) (ocs (oca 2 rfl) (ocn _)) (Jz 8 ?_)))
 refine Gj rfl rfl rfl rfl rfl .fc ((ih x (mog hx)).1 x.At x.qt hxt hxtl hxa) (by show owns (lsG Bw Dh x.At x.thn)++[]=[];rw[(Dx Bw Dh x.At x.thn).owns];rfl) (ocs (oca 0 rfl) (ocn _)) ?_
 rintro _ _ ⟨rfl,rfl⟩
 refine⟨rfl,?_⟩
 refine Jz 3 ?_
 refine Gj rfl rfl rfl rfl rfl .fc ((ih x (mog hx)).2 x.Ae x.qe hxn hxnl hxb) (by show owns (lsG Bw Dh x.Ae x.els)++[]=[];rw[(Dx Bw Dh x.Ae x.els).owns];rfl) (ocs (oca 1 rfl) (ocn _)) ?_
 rintro _ _ ⟨rfl,rfl⟩
 refine⟨rfl,?_⟩
 refine Fw.f rfl (Cr (v':=nv (max m (max (Dr (Ba x.thn)) (Dr (Ba x.els))))) (congrArg iv om) (zK rfl rfl rfl rfl)) ?_
 refine Jz 9 ?_
 refine Cg ⟨⟨(max m (max (Dr (Ba x.thn)) (Dr (Ba x.els)))),k+1,rfl,rfl,rfl,om,(by rw[aEa om,hcx,hm,hxc];split<;>omega),(fun h=>by omega),om⟩,sb⟩
 refine Jz 13 ?_
 refine Df (Du (Je1 results170 ?_))
 have h2:Dr (Ba l)=m+1:=by rw[show k=l.length by omega,List.take_length,aEa om]at hm;exact hm
 rw[h2];exact⟨rfl,rfl⟩
theorem jX:∀l:List St,∀(A:OA) (q:Nat),l.length≤12→Dy (Ba l)→Dr (Ba l)≤100→Dz 170 [vs A l q] [all (lsG Bw Dh A l)] (fun v Γ'=>v=nv (Dr (Ba l))∧Γ'=[])
 |l,A,q,h1,h2,h3=>xV l (fun x hx=>⟨jX x.thn,jX x.els⟩) A q h1 h2 h3
termination_by l=>SizeOf.sizeOf l
decreasing_by
 all_goals
  have h:=aFq hx
  have:SizeOf.sizeOf x.thn<SizeOf.sizeOf x∧SizeOf.sizeOf x.els<SizeOf.sizeOf x:=by cases x;simp only[St.mk.sizeOf_spec];omega
  omega
theorem xW(P:OA)(s:St)(hf:s.Fine)(hle:s.exprs.length≤4)(hlow:Kk (Cv s.exprs)):
    Dz 171 [.pointer (some ⟨blk P,ofs P+0*6,none⟩)] [ros Dh P [s],all (lsF Bw s.A s.exprs),glc] (fun v Γ'=>v= .bool true∧Γ'=[]):=by
 refine Am func171 ntmps171 fun w0=>?_
 refine Jz 7 ?_
 refine To.one 1 rfl (ros Bw s.A s.exprs) rfl (aEd ..) (Jz 4 ?_)
 refine Jr (Ck (i:=1) rfl rfl Xk rfl (gvt (rsg Jh (show([s]:List St)[0]?=some s from rfl)) rfl)) ?_
 refine Jz 5 ?_
 refine Cw (fun u g mz ρ Γ=>∃(k:Nat),ρ=[u 8,u 9,(10,nv k)]∧Γ=[g 0,g 2]∧mz=s.exprs.length-k∧(k≤s.exprs.length)) ⟨⟨0,rfl,rfl,rfl,om⟩,sb⟩ ?_
 rintro mz _ _ ⟨k,rfl,rfl,rfl,hk⟩
 refine Jz 6 ?_
 refine Jcp rfl ?_ ?_<;>intro c11
 obtain⟨x,hx⟩:=exg s.exprs k om
 have hxd:=hf.deps x (mog hx)
 refine Jz 8 ?_
 refine Jal fun b4=>?_
 refine Jz 4 ?_
 refine Db 2 rfl (x.kids Bw) (Ex.lax Bw x) (Yo hx) (Jz 2 ?_)
 refine Jqf (BL x (Ob hlow (mog hx)) (aGd hxd (by decide))) (by show owns (x.kids Bw)++[]=[];rw[(Ex.lax Bw x).owns];rfl) (ocs (oca 0 rfl) (ocn _)) ?_
 rintro _ _ ⟨rfl,rfl⟩
 refine⟨rfl,?_⟩
 refine Jr (Cr (v':= .bool false) (congrArg Value.bool (aEo om)) (Rd.gtr rfl rfl rfl)) ?_
 refine Jz 11 ?_
 refine Cg ⟨⟨k+1,rfl,rfl,rfl,om⟩,sb⟩
 refine Jz 11 ?_
 refine Df (Du (Je1 results171 ?_))
 exact⟨rfl,rfl⟩
theorem xX(P:OA)(s:St)(hf:s.Fine)(hle:s.exprs.length≤4)(hlow:Kk (Cv s.exprs)):
    Dz 136 [.pointer (some ⟨blk P,ofs P+0*6,none⟩)] [ros Dh P [s],all (lsF Bw s.A s.exprs),glc] (fun v Γ'=>v= .bool true∧Γ'=[]):=by
 refine Am func136 ntmps136 fun w0=>?_
 refine Jz 10 ?_
 refine Jr (Ck (i:=0) rfl rfl aAr rfl (gvt (f:=0) (rsg Jh (show([s]:List St)[0]?=some s from rfl)) rfl)) ?_
 refine Jvf (BJ hf.k1 hf.k2) rfl (Nj 2 rfl) ?_
 refine Jz 3 ?_
 refine Jal fun b3=>?_
 refine Jz 7 ?_
 refine Nk [0] 34 (false) ?_ ?_
 refine Jz 2 ?_
 refine JgB ?_ ?_<;>intro g15
 refine Jz 3 ?_
 refine Jr (Ck (i:=1) rfl rfl c9 rfl (gvt (rsg Jh (show([s]:List St)[0]?=some s from rfl)) rfl)) ?_
 refine Jvf (Jv (hf.nm1 (by simpa using g15))) rfl (Nj 3 rfl) ?_
 refine Jz 5 ?_
 refine JgB ?_ ?_<;>intro g26
 refine Jz 3 ?_
 refine Jr (Ck (i:=1) rfl rfl c9 rfl (gvt (rsg Jh (show([s]:List St)[0]?=some s from rfl)) rfl)) ?_
 refine Jvf (Jv (hf.hd1 (by simpa using g26))) rfl (Nj 3 rfl) ?_
 refine Jz 5 ?_
 refine Gg rfl rfl
 refine Jz 10 ?_
 refine Gg rfl rfl
 refine Jz 10 ?_
 refine JgB ?_ ?_<;>intro g26
 refine Jz 3 ?_
 refine Jr (Ck (i:=1) rfl rfl c9 rfl (gvt (rsg Jh (show([s]:List St)[0]?=some s from rfl)) rfl)) ?_
 refine Jvf (Jv (hf.hd1 (by simpa using g26))) rfl (Nj 3 rfl) ?_
 refine Jz 5 ?_
 refine Gg rfl rfl
 refine Jz 10 ?_
 refine Gg rfl rfl
 refine Jz 6 ?_
 refine Jqf (SC P s hle hlow hf.exprs) (by show[]++(owns (lsF Bw s.A s.exprs)++(owns gl++[]))=[];rw[(Ma Bw s.A s.exprs).owns];rfl) (ocs (oca 1 rfl) (ocs (oca 2 rfl) (ocs (oca 3 rfl) (ocn _)))) ?_
 rintro _ _ ⟨rfl,rfl⟩
 refine⟨rfl,?_⟩
 refine Jz 4 ?_
 refine Dl (Cu (Df (Du (Je1 results136 ?_))))
 exact⟨rfl,rfl⟩
theorem uF(P:OA)(s:St)(hf:s.Fine)(hle:s.exprs.length≤4)(hlow:Kk (Cv s.exprs)):
    Dz 139 [.pointer (some ⟨blk P,ofs P+0*6,none⟩)] [ros Dh P [s],all (lsF Bw s.A s.exprs),glc] (fun v Γ'=>v= .bool true∧Γ'=[]):=by
 refine Am func139 ntmps139 fun w0=>?_
 refine Jz 10 ?_
 refine Jr (Ck (i:=0) rfl rfl aAr rfl (gvt (f:=0) (rsg Jh (show([s]:List St)[0]?=some s from rfl)) rfl)) ?_
 refine Jvf (BJ hf.k1 hf.k2) rfl (Nj 2 rfl) ?_
 refine Jz 3 ?_
 refine Jal fun b3=>?_
 refine Jz 10 ?_
 refine Jr (Ck (i:=1) rfl rfl Xk rfl (gvt (rsg Jh (show([s]:List St)[0]?=some s from rfl)) rfl)) ?_
 refine Jz 19 ?_
 refine Jr (Cr (v':= .bool false) (congrArg Value.bool (aEo (by have:=hf.least;omega))) (Rd.lss rfl rfl rfl)) ?_
 refine Jz 8 ?_
 refine Jr (Cr (v':= .bool false) (congrArg Value.bool (aEo (by have:=hf.most;omega))) (Rd.gtr rfl rfl rfl)) ?_
 refine Jz 7 ?_
 refine Nk [0,3] 30 (false) ?_ ?_
 refine Jz 3 ?_
 refine JgB ?_ ?_<;>intro g34
 refine Jz 3 ?_
 refine Jr (Ck (i:=1) rfl rfl c9 rfl (gvt (rsg Jh (show([s]:List St)[0]?=some s from rfl)) rfl)) ?_
 refine Jr (Cr (v':= .bool false) (congrArg Value.bool (aEo (fun h=>h (hf.nm2 (by simpa using g34))))) (pW rfl rfl rfl)) ?_
 refine Jz 4 ?_
 refine Gg rfl rfl
 refine Jz 9 ?_
 refine Gg rfl rfl
 refine Jz 2 ?_
 refine Nk [0,3] 30 (false) ?_ ?_
 refine Jz 3 ?_
 refine JgB ?_ ?_<;>intro g44
 refine Jz 3 ?_
 refine Jr (Ck (i:=1) rfl rfl c9 rfl (gvt (rsg Jh (show([s]:List St)[0]?=some s from rfl)) rfl)) ?_
 refine Jr (Cr (v':= .bool false) (congrArg Value.bool (aEo (fun h=>h (hf.hd2 (by simpa using g44))))) (pW rfl rfl rfl)) ?_
 refine Jz 4 ?_
 refine Gg rfl rfl
 refine Jz 9 ?_
 refine Gg rfl rfl
 refine Jz 4 ?_
 refine Nk [0,3] 51 (false) ?_ ?_
 refine Jz 3 ?_
 refine JgB ?_ ?_<;>intro g55
 refine Jz 3 ?_
 refine Jr (Ck (i:=1) rfl rfl aAp rfl (gvt (rsg Jh (show([s]:List St)[0]?=some s from rfl)) rfl)) ?_
 refine Jz 1 ?_
 refine Jr (Cr (v':= .bool false) (congrArg Value.bool (aEo (by rw[hf.thn (by simpa using g55)];decide))) (Rd.gtr rfl rfl rfl)) ?_
 refine Jz 4 ?_
 refine Gg rfl rfl
 refine Jz 10 ?_
 refine Gg rfl rfl
 refine Jz 2 ?_
 refine Nk [0,3] 51 (false) ?_ ?_
 refine Jz 3 ?_
 refine JgB ?_ ?_<;>intro g66
 refine Jz 3 ?_
 refine Jr (Ck (i:=1) rfl rfl aAp rfl (gvt (rsg Jh (show([s]:List St)[0]?=some s from rfl)) rfl)) ?_
 refine Jz 1 ?_
 refine Jr (Cr (v':= .bool false) (congrArg Value.bool (aEo (by rw[hf.els (by simpa using g66)];decide))) (Rd.gtr rfl rfl rfl)) ?_
 refine Jz 4 ?_
 refine Gg rfl rfl
 refine Jz 10 ?_
 refine Gg rfl rfl
 refine Jz 7 ?_
 refine Jqf (SE P s hle hlow hf.exprs) (by show[]++(owns (lsF Bw s.A s.exprs)++(owns gl++[]))=[];rw[(Ma Bw s.A s.exprs).owns];rfl) (ocs (oca 1 rfl) (ocs (oca 2 rfl) (ocs (oca 3 rfl) (ocn _)))) ?_
 rintro _ _ ⟨rfl,rfl⟩
 refine⟨rfl,?_⟩
 refine Jz 4 ?_
 refine Dl (Cu (Df (Du (Je1 results139 ?_))))
 exact⟨rfl,rfl⟩
theorem FL(l:List St)(ih:∀x∈l,(∀(A:OA) (q:Nat),x.thn.length≤12→Dy (Ba x.thn)→Gy (Ba x.thn)→Dz 135 [vs A x.thn q, .func (.func 171) #[] #[]] [all (lsG Bw Dh A x.thn),glc] (fun v Γ'=>v= .bool true∧Γ'=[]))∧(∀(A:OA) (q:Nat),x.els.length≤12→Dy (Ba x.els)→Gy (Ba x.els)→Dz 135 [vs A x.els q, .func (.func 171) #[] #[]] [all (lsG Bw Dh A x.els),glc] (fun v Γ'=>v= .bool true∧Γ'=[])))(A:OA)(q:Nat)(hl:l.length≤12)(hlow:Dy (Ba l))(hfin:Gy (Ba l)):
    Dz 135 [vs A l q, .func (.func 171) #[] #[]] [all (lsG Bw Dh A l),glc] (fun v Γ'=>v= .bool true∧Γ'=[]):=by
 refine Am func135 ntmps135 fun w0=>?_
 refine Jz 7 ?_
 refine To.one 0 rfl (ros Dh A l) rfl (aEd ..) (Jz 7 ?_)
 refine Lf (fun s g mz ρ Γ=>∃(k:Nat),ρ=[s 0,s 1,s 8,(9,nv k)]∧Γ=[g 0,g 1,glc]∧mz=l.length-k∧(k≤l.length)) ⟨⟨0,rfl,rfl,rfl,om⟩,sb⟩ ?_
 rintro mz _ _ ⟨k,rfl,rfl,rfl,hk⟩
 refine Jz 6 ?_
 refine Jcp rfl ?_ ?_<;>intro c10
 obtain⟨x,hx⟩:=exg l k om
 obtain⟨hxk,⟨hxe,hxl⟩,⟨hxt,hxtl⟩,hxn,hxnl⟩:=Qg (Oc hlow (mog hx))
 have hxf:=Yr (Wj hfin (mog hx))
 refine Jz 19 ?_
 refine Yk Jh (by decide) 0 rfl hx (Db 2 rfl (lsG Bw Dh x.Ae x.els) (Dx _ _ _ _) (fun c hc=>Kw hx c (Ji x c hc)) (Db 3 rfl (lsG Bw Dh x.At x.thn) (Dx _ _ _ _) (fun c hc=>Kw hx c (Kj x c hc)) (Db 4 rfl (lsF Bw x.A x.exprs) (Ma _ _ _) (fun c hc=>Kw hx c (Ll x c hc)) (Jz 3 ?_))))
 refine JcQ rfl rfl rfl (Ent.func (first:=[]) (captured:=[]) rfl rfl rfl (kc.h 171 rfl)) (xW (some ⟨blk A,ofs A+k*6,none⟩) x hxf.1 hxe hxl) (by show[]++(owns (lsF Bw x.A x.exprs)++(owns gl++[]))=[];rw[(Ma Bw x.A x.exprs).owns];rfl) (ocs (oca 3 rfl) (ocs (oca 0 rfl) (ocs (oca 6 rfl) (ocn _)))) ?_
 rintro _ _ ⟨rfl,rfl⟩
 refine⟨rfl,?_⟩
 refine Jz 7 ?_
 refine Jqf ((ih x (mog hx)).1 x.At x.qt hxt hxtl hxf.2.1) (by show owns (lsG Bw Dh x.At x.thn)++(owns gl++[])=[];rw[(Dx Bw Dh x.At x.thn).owns];rfl) (ocs (oca 1 rfl) (ocs (oca 6 rfl) (ocn _))) ?_
 rintro _ _ ⟨rfl,rfl⟩
 refine⟨rfl,?_⟩
 refine Jz 8 ?_
 refine Jqf ((ih x (mog hx)).2 x.Ae x.qe hxn hxnl hxf.2.2) (by show owns (lsG Bw Dh x.Ae x.els)++(owns gl++[])=[];rw[(Dx Bw Dh x.Ae x.els).owns];rfl) (ocs (oca 2 rfl) (ocs (oca 6 rfl) (ocn _))) ?_
 rintro _ _ ⟨rfl,rfl⟩
 refine⟨rfl,?_⟩
 refine Jz 13 ?_
 refine Cg ⟨⟨k+1,rfl,rfl,rfl,om⟩,sb⟩
 refine Jz 11 ?_
 refine Cu (Df (Du (Je1 results135 ?_)))
 exact⟨rfl,rfl⟩
theorem qN:∀l:List St,∀(A:OA) (q:Nat),l.length≤12→Dy (Ba l)→Gy (Ba l)→Dz 135 [vs A l q, .func (.func 171) #[] #[]] [all (lsG Bw Dh A l),glc] (fun v Γ'=>v= .bool true∧Γ'=[])
 |l,A,q,h1,h2,h3=>FL l (fun x hx=>⟨qN x.thn,qN x.els⟩) A q h1 h2 h3
termination_by l=>SizeOf.sizeOf l
decreasing_by
 all_goals
  have h:=aFq hx
  have:SizeOf.sizeOf x.thn<SizeOf.sizeOf x∧SizeOf.sizeOf x.els<SizeOf.sizeOf x:=by cases x;simp only[St.mk.sizeOf_spec];omega
  omega
theorem FM(l:List St)(ih:∀x∈l,(∀(A:OA) (q:Nat),x.thn.length≤12→Dy (Ba x.thn)→Gy (Ba x.thn)→Dz 135 [vs A x.thn q, .func (.func 136) #[] #[]] [all (lsG Bw Dh A x.thn),glc] (fun v Γ'=>v= .bool true∧Γ'=[]))∧(∀(A:OA) (q:Nat),x.els.length≤12→Dy (Ba x.els)→Gy (Ba x.els)→Dz 135 [vs A x.els q, .func (.func 136) #[] #[]] [all (lsG Bw Dh A x.els),glc] (fun v Γ'=>v= .bool true∧Γ'=[])))(A:OA)(q:Nat)(hl:l.length≤12)(hlow:Dy (Ba l))(hfin:Gy (Ba l)):
    Dz 135 [vs A l q, .func (.func 136) #[] #[]] [all (lsG Bw Dh A l),glc] (fun v Γ'=>v= .bool true∧Γ'=[]):=by
 refine Am func135 ntmps135 fun w0=>?_
 refine Jz 7 ?_
 refine To.one 0 rfl (ros Dh A l) rfl (aEd ..) (Jz 7 ?_)
 refine Lf (fun s g mz ρ Γ=>∃(k:Nat),ρ=[s 0,s 1,s 8,(9,nv k)]∧Γ=[g 0,g 1,glc]∧mz=l.length-k∧(k≤l.length)) ⟨⟨0,rfl,rfl,rfl,om⟩,sb⟩ ?_
 rintro mz _ _ ⟨k,rfl,rfl,rfl,hk⟩
 refine Jz 6 ?_
 refine Jcp rfl ?_ ?_<;>intro c10
 obtain⟨x,hx⟩:=exg l k om
 obtain⟨hxk,⟨hxe,hxl⟩,⟨hxt,hxtl⟩,hxn,hxnl⟩:=Qg (Oc hlow (mog hx))
 have hxf:=Yr (Wj hfin (mog hx))
 refine Jz 19 ?_
 refine Yk Jh (by decide) 0 rfl hx (Db 2 rfl (lsG Bw Dh x.Ae x.els) (Dx _ _ _ _) (fun c hc=>Kw hx c (Ji x c hc)) (Db 3 rfl (lsG Bw Dh x.At x.thn) (Dx _ _ _ _) (fun c hc=>Kw hx c (Kj x c hc)) (Db 4 rfl (lsF Bw x.A x.exprs) (Ma _ _ _) (fun c hc=>Kw hx c (Ll x c hc)) (Jz 3 ?_))))
 refine JcQ rfl rfl rfl (Ent.func (first:=[]) (captured:=[]) rfl rfl rfl (kc.h 136 rfl)) (xX (some ⟨blk A,ofs A+k*6,none⟩) x hxf.1 hxe hxl) (by show[]++(owns (lsF Bw x.A x.exprs)++(owns gl++[]))=[];rw[(Ma Bw x.A x.exprs).owns];rfl) (ocs (oca 3 rfl) (ocs (oca 0 rfl) (ocs (oca 6 rfl) (ocn _)))) ?_
 rintro _ _ ⟨rfl,rfl⟩
 refine⟨rfl,?_⟩
 refine Jz 7 ?_
 refine Jqf ((ih x (mog hx)).1 x.At x.qt hxt hxtl hxf.2.1) (by show owns (lsG Bw Dh x.At x.thn)++(owns gl++[])=[];rw[(Dx Bw Dh x.At x.thn).owns];rfl) (ocs (oca 1 rfl) (ocs (oca 6 rfl) (ocn _))) ?_
 rintro _ _ ⟨rfl,rfl⟩
 refine⟨rfl,?_⟩
 refine Jz 8 ?_
 refine Jqf ((ih x (mog hx)).2 x.Ae x.qe hxn hxnl hxf.2.2) (by show owns (lsG Bw Dh x.Ae x.els)++(owns gl++[])=[];rw[(Dx Bw Dh x.Ae x.els).owns];rfl) (ocs (oca 2 rfl) (ocs (oca 6 rfl) (ocn _))) ?_
 rintro _ _ ⟨rfl,rfl⟩
 refine⟨rfl,?_⟩
 refine Jz 13 ?_
 refine Cg ⟨⟨k+1,rfl,rfl,rfl,om⟩,sb⟩
 refine Jz 11 ?_
 refine Cu (Df (Du (Je1 results135 ?_)))
 exact⟨rfl,rfl⟩
theorem qO:∀l:List St,∀(A:OA) (q:Nat),l.length≤12→Dy (Ba l)→Gy (Ba l)→Dz 135 [vs A l q, .func (.func 136) #[] #[]] [all (lsG Bw Dh A l),glc] (fun v Γ'=>v= .bool true∧Γ'=[])
 |l,A,q,h1,h2,h3=>FM l (fun x hx=>⟨qO x.thn,qO x.els⟩) A q h1 h2 h3
termination_by l=>SizeOf.sizeOf l
decreasing_by
 all_goals
  have h:=aFq hx
  have:SizeOf.sizeOf x.thn<SizeOf.sizeOf x∧SizeOf.sizeOf x.els<SizeOf.sizeOf x:=by cases x;simp only[St.mk.sizeOf_spec];omega
  omega
theorem FN(l:List St)(ih:∀x∈l,(∀(A:OA) (q:Nat),x.thn.length≤12→Dy (Ba x.thn)→Gy (Ba x.thn)→Dz 135 [vs A x.thn q, .func (.func 139) #[] #[]] [all (lsG Bw Dh A x.thn),glc] (fun v Γ'=>v= .bool true∧Γ'=[]))∧(∀(A:OA) (q:Nat),x.els.length≤12→Dy (Ba x.els)→Gy (Ba x.els)→Dz 135 [vs A x.els q, .func (.func 139) #[] #[]] [all (lsG Bw Dh A x.els),glc] (fun v Γ'=>v= .bool true∧Γ'=[])))(A:OA)(q:Nat)(hl:l.length≤12)(hlow:Dy (Ba l))(hfin:Gy (Ba l)):
    Dz 135 [vs A l q, .func (.func 139) #[] #[]] [all (lsG Bw Dh A l),glc] (fun v Γ'=>v= .bool true∧Γ'=[]):=by
 refine Am func135 ntmps135 fun w0=>?_
 refine Jz 7 ?_
 refine To.one 0 rfl (ros Dh A l) rfl (aEd ..) (Jz 7 ?_)
 refine Lf (fun s g mz ρ Γ=>∃(k:Nat),ρ=[s 0,s 1,s 8,(9,nv k)]∧Γ=[g 0,g 1,glc]∧mz=l.length-k∧(k≤l.length)) ⟨⟨0,rfl,rfl,rfl,om⟩,sb⟩ ?_
 rintro mz _ _ ⟨k,rfl,rfl,rfl,hk⟩
 refine Jz 6 ?_
 refine Jcp rfl ?_ ?_<;>intro c10
 obtain⟨x,hx⟩:=exg l k om
 obtain⟨hxk,⟨hxe,hxl⟩,⟨hxt,hxtl⟩,hxn,hxnl⟩:=Qg (Oc hlow (mog hx))
 have hxf:=Yr (Wj hfin (mog hx))
 refine Jz 19 ?_
 refine Yk Jh (by decide) 0 rfl hx (Db 2 rfl (lsG Bw Dh x.Ae x.els) (Dx _ _ _ _) (fun c hc=>Kw hx c (Ji x c hc)) (Db 3 rfl (lsG Bw Dh x.At x.thn) (Dx _ _ _ _) (fun c hc=>Kw hx c (Kj x c hc)) (Db 4 rfl (lsF Bw x.A x.exprs) (Ma _ _ _) (fun c hc=>Kw hx c (Ll x c hc)) (Jz 3 ?_))))
 refine JcQ rfl rfl rfl (Ent.func (first:=[]) (captured:=[]) rfl rfl rfl (kc.h 139 rfl)) (uF (some ⟨blk A,ofs A+k*6,none⟩) x hxf.1 hxe hxl) (by show[]++(owns (lsF Bw x.A x.exprs)++(owns gl++[]))=[];rw[(Ma Bw x.A x.exprs).owns];rfl) (ocs (oca 3 rfl) (ocs (oca 0 rfl) (ocs (oca 6 rfl) (ocn _)))) ?_
 rintro _ _ ⟨rfl,rfl⟩
 refine⟨rfl,?_⟩
 refine Jz 7 ?_
 refine Jqf ((ih x (mog hx)).1 x.At x.qt hxt hxtl hxf.2.1) (by show owns (lsG Bw Dh x.At x.thn)++(owns gl++[])=[];rw[(Dx Bw Dh x.At x.thn).owns];rfl) (ocs (oca 1 rfl) (ocs (oca 6 rfl) (ocn _))) ?_
 rintro _ _ ⟨rfl,rfl⟩
 refine⟨rfl,?_⟩
 refine Jz 8 ?_
 refine Jqf ((ih x (mog hx)).2 x.Ae x.qe hxn hxnl hxf.2.2) (by show owns (lsG Bw Dh x.Ae x.els)++(owns gl++[])=[];rw[(Dx Bw Dh x.Ae x.els).owns];rfl) (ocs (oca 2 rfl) (ocs (oca 6 rfl) (ocn _))) ?_
 rintro _ _ ⟨rfl,rfl⟩
 refine⟨rfl,?_⟩
 refine Jz 13 ?_
 refine Cg ⟨⟨k+1,rfl,rfl,rfl,om⟩,sb⟩
 refine Jz 11 ?_
 refine Cu (Df (Du (Je1 results135 ?_)))
 exact⟨rfl,rfl⟩
theorem qP:∀l:List St,∀(A:OA) (q:Nat),l.length≤12→Dy (Ba l)→Gy (Ba l)→Dz 135 [vs A l q, .func (.func 139) #[] #[]] [all (lsG Bw Dh A l),glc] (fun v Γ'=>v= .bool true∧Γ'=[])
 |l,A,q,h1,h2,h3=>FN l (fun x hx=>⟨qP x.thn,qP x.els⟩) A q h1 h2 h3
termination_by l=>SizeOf.sizeOf l
decreasing_by
 all_goals
  have h:=aFq hx
  have:SizeOf.sizeOf x.thn<SizeOf.sizeOf x∧SizeOf.sizeOf x.els<SizeOf.sizeOf x:=by cases x;simp only[St.mk.sizeOf_spec];omega
  omega
end Go.Proofs.YtlihklladkagpaaGreatDoor

/- Merged out of Q6p, Q6 by merge.py. Own text. -/
import Derived.Test.YtihgdnjkofpgiaaGreatDoorKa
import Derived.Test.YtihgdnjkofpgiaaGreatDoorQa
set_option linter.unusedVariables false
set_option linter.unusedSimpArgs false
set_option maxHeartbeats 2000000
set_option maxRecDepth 100000
namespace Go.Proofs.YtihgdnjkofpgiaaGreatDoor
open Go.RowKit Go.Flow Go.Mem Go.Sep Go.In
mutual
def PE.dep:PE→Nat
 |⟨_,_,_,l⟩=>PE.depL l+1
def PE.depL:List PE→Nat
 |[]=>0
 |e::r=>max (PE.dep e) (PE.depL r)
end
theorem PE.depL_app:∀(l:List PE) (x:PE),PE.depL (l++[x])=max (PE.depL l) x.dep
 |[],x=>by show max x.dep 0=max 0 x.dep;omega
 |e::r,x=>by show max e.dep (PE.depL (r++[x]))=max (max e.dep (PE.depL r)) x.dep;rw[PE.depL_app r x];omega
theorem PE.dep_mem:∀{l:List PE} {x:PE},x∈l→x.dep≤PE.depL l
 | e::r,x,h=>by
   show x.dep≤max e.dep (PE.depL r)
   rcases List.mem_cons.1 h with rfl|h
   ·omega
   ·have:=PE.dep_mem h;omega
mutual
def PE.fine:PE→Prop
 |⟨o,s,n,l⟩=>(1≤o∧o≤23)∧l.length=opnL.getD o 0∧((namL.getD o false=true→isNm s)∧(namL.getD o false=false→s=nE))∧((o=1→0≤n∧n≤9)∧(o≠1→n=0))∧PE.fineL l
def PE.fineL:List PE→Prop
 |[]=>True
 |e::r=>PE.fine e∧PE.fineL r
end
theorem PE.fineL_mem:∀{l:List PE},PE.fineL l→∀x∈l,x.fine
 |[],_,x,h=>by cases h
 | e::r,h,x,hx=>by
   rcases List.mem_cons.1 hx with rfl|hx
   ·exact h.1
   ·exact PE.fineL_mem h.2 x hx
theorem PE.fineL_of:∀{l:List PE},(∀x∈l,x.fine)→PE.fineL l
 |[],_=>trivial
 |e::r,h=>⟨h e (List.mem_cons_self ..),PE.fineL_of fun x hx=>h x (List.mem_cons_of_mem _ hx)⟩
theorem Ex.fine_mem{e x:Ex}(h:e.pure.fine)(hx:x∈e.args):x.pure.fine:=by
 rw[Ex.pure_eq]at h
 refine PE.fineL_mem h.2.2.2.2 x.pure ?_
 rw[Ex.pureL_map];exact List.mem_map.2 ⟨x,hx,rfl⟩
theorem Ex.fineL_at{l:List Ex}(h:PE.fineL (Ex.pL l)){x:Ex}(hx:x∈l):x.pure.fine:=PE.fineL_mem h x.pure (by rw[Ex.pureL_map];exact List.mem_map.2 ⟨x,hx,rfl⟩)
structure Ex.Fine(e:Ex):Prop where
 o1:1≤e.op
 o2:e.op≤23
 args:e.args.length=opnL.getD e.op 0
 nm1:namL.getD e.op false=true→isNm e.name
 nm2:namL.getD e.op false=false→e.name=nE
 n1:e.op=1→0≤e.n
 n3:e.op=1→e.n≤9
 n2:e.op≠1→e.n=0
theorem Ex.fine_at{e:Ex}(h:e.pure.fine):e.Fine:=by
 rw[Ex.pure_eq]at h
 obtain⟨⟨h1,h2⟩,h3,⟨h4,h5⟩,⟨h6,h7⟩,_⟩:=h
 rw[Ex.pureL_map,List.length_map]at h3
 exact⟨h1,h2,h3,h4,h5,fun h=>(h6 h).1,fun h=>(h6 h).2,h7⟩
theorem opnL_le(o:Nat):opnL.getD o 0≤2:=by
 by_cases h:o<24
 · have all:∀o,o<24→opnL.getD o 0≤2:=by decide
   exact all o h
 ·show(opnL[o]?).getD 0≤2;rw[List.getElem?_eq_none (by show 24≤o;omega)];exact Nat.zero_le _
section
variable{c:Ct}{np:Nat}
theorem un1{o:Nat}{s:ByteArray}{e:PE}(h:e.fine)(ho:o=9∨o=10):PE.fine ⟨o,nE,0,[e]⟩:=by
 rcases ho with rfl|rfl<;>exact⟨by decide,rfl,⟨fun h=>(by cases h),fun _=>rfl⟩,⟨fun h=>(by omega),fun _=>rfl⟩,h,trivial⟩
theorem bi2{o:Nat}{a b:PE}(ha:a.fine)(hb:b.fine)(h1:11≤o)(h2:o≤23):PE.fine ⟨o,nE,0,[a,b]⟩:=by
 have all:∀o,o<24→11≤o→opnL.getD o 0=2∧namL.getD o false=false:=by decide
 obtain⟨e1,e2⟩:=all o (by omega) h1
 refine⟨⟨by omega,h2⟩,by rw[e1];rfl,⟨fun h=>?_,fun _=>rfl⟩,⟨fun h=>(by omega),fun _=>rfl⟩,ha,hb,trivial⟩
 rw[e2]at h;cases h
theorem lf0{o:Nat}{s:ByteArray}{n:Int}(ho:1≤o∧o≤5∨o=8)(h1:o=5∨o=8→isNm s)(h2:o≠5→o≠8→s=nE)(h3:o=1→0≤n∧n≤9)(h4:o≠1→n=0):PE.fine ⟨o,s,n,[]⟩:=by
 have all:∀o,o<24→(1≤o∧o≤5∨o=8)→opnL.getD o 0=0∧(namL.getD o false=true↔o=5∨o=8):=by decide
 obtain⟨e1,e2⟩:=all o (by omega) ho
 refine⟨by omega,by rw[e1];rfl,⟨fun h=>h1 (e2.1 h),fun h=>?_⟩,⟨h3,h4⟩,trivial⟩
 have:¬(o=5∨o=8):=fun h5=>by rw[e2.2 h5]at h;cases h
 exact h2 (by omega) (by omega)
theorem tb1{o:Nat}{s:ByteArray}{e:PE}(h:e.fine)(hs:isNm s)(ho:o=6∨o=7):PE.fine ⟨o,s,0,[e]⟩:=by
 rcases ho with rfl|rfl<;>exact⟨by decide,rfl,⟨fun _=>hs,fun h=>(by cases h)⟩,⟨fun h=>(by omega),fun _=>rfl⟩,h,trivial⟩
theorem IntE.fine(ok:c.Ok)(hnp:np≤2){d:Nat}{e:PE}(h:IntE c np d e):e.fine∧e.dep≤d+1:=by
 have hi:=ok.ints
 induction h with
 |num d n h=>exact⟨lf0 (by omega) (by omega) (fun _ _=>rfl) (fun _=>by omega) (by omega),Nat.le_add_left 1 d⟩
 |var d k h=>exact⟨lf0 (by omega) (fun _=>isNm_x (by omega)) (by omega) (by omega) (fun _=>rfl),Nat.le_add_left 1 d⟩
 |par d k h=>exact⟨lf0 (by omega) (fun _=>isNm_p (by omega)) (by omega) (by omega) (fun _=>rfl),Nat.le_add_left 1 d⟩
 |now d=>exact⟨lf0 (by omega) (by omega) (fun _ _=>rfl) (by omega) (fun _=>rfl),Nat.le_add_left 1 d⟩
 |get d e ht h ih=>exact⟨tb1 ih.1 isNm_t0 (.inl rfl),by show max e.dep 0+1≤_;have:=ih.2;omega⟩
 |size d ht=>exact⟨lf0 (by omega) (fun _=>isNm_t0) (by omega) (by omega) (fun _=>rfl),Nat.le_add_left 1 d⟩
 |neg d e h ih=>exact⟨un1 (s:=nE) ih.1 (.inl rfl),by show max e.dep 0+1≤_;have:=ih.2;omega⟩
 |bin d op a b ho ha hb iha ihb=>exact⟨bi2 iha.1 ihb.1 (by omega) (by omega),by show max a.dep (max b.dep 0)+1≤_;have:=iha.2;have:=ihb.2;omega⟩
theorem TruE.fine(ok:c.Ok)(hnp:np≤2){d:Nat}{e:PE}(h:TruE c np d e):e.fine∧e.dep≤d+4:=by
 have hf:=ok.flags
 induction h with
 |tf d op h=>exact⟨lf0 (by omega) (by omega) (fun _ _=>rfl) (by omega) (fun _=>rfl),show 1≤d+4 by omega⟩
 |b0 d=>exact⟨lf0 (by omega) (fun _=>isNm_b0) (by omega) (by omega) (fun _=>rfl),show 1≤d+4 by omega⟩
 |flag d k h=>exact⟨lf0 (by omega) (fun _=>isNm_f (by omega)) (by omega) (by omega) (fun _=>rfl),show 1≤d+4 by omega⟩
 |has d e ht h=>have:=h.fine ok hnp;exact⟨tb1 this.1 isNm_t0 (.inr rfl),by show max e.dep 0+1≤_;omega⟩
 |not d e h ih=>exact⟨un1 (s:=nE) ih.1 (.inr rfl),by show max e.dep 0+1≤_;have:=ih.2;omega⟩
 |two d op a b ho ha hb iha ihb=>exact⟨bi2 iha.1 ihb.1 (by omega) (by omega),by show max a.dep (max b.dep 0)+1≤_;have:=iha.2;have:=ihb.2;omega⟩
 |cmp d op a b ho ha hb=>have:=ha.fine ok hnp;have:=hb.fine ok hnp;exact⟨bi2 ‹a.fine∧_›.1 ‹b.fine∧_›.1 (by omega) (by omega),by show max a.dep (max b.dep 0)+1≤_;omega⟩
end
theorem qdep_step(e:Ex)(hlow:e.pure.low)(hd:e.pure.dep≤100)(ih:∀x∈e.args,x.pure.low→x.pure.dep≤100→Does Tryz.prog 171 [.agg (encX x).toArray] [all (x.kids encX)] (fun v Γ'=>v=nv x.pure.dep∧Γ'=[])):
    Does Tryz.prog 171 [.agg (encX e).toArray] [all (e.kids encX)] (fun v Γ'=>v=nv e.pure.dep∧Γ'=[]):=by
 obtain⟨hop,hal⟩:=Ex.low_op hlow
 refine Does.enter Tryz.func171 rfl Tryz.ntmps171 rfl (fun w0=>?_)
 refine To.s (To.g ?_)
 refine To.bo fun b1=>?_
 refine To.z 10 ?_
 refine To.one 1 rfl (ros encX e.A e.args) rfl (Ex.args_kids e) ?_
 refine To.z 8 ?_
 refine To.sub [(1,pv b1),(3,nv 0),(7,nv e.args.length),(8,nv 0)] ⟨rfl,rfl,rfl,rfl,trivial⟩ ?_
 refine To.up1 ?_
 refine To.loop (fun mz ρ Γ=>∃(m:Nat) (k:Nat),ρ=[(1,pv b1),(3,nv m),(7,nv e.args.length),(8,nv k)]∧Γ=[box b1 [.int .u8 ((e.op:Nat):Int), .string e.name, .int .i64 e.n, .slice e.A e.args.length e.q] 241,ros encX e.A e.args,all (e.kids encX)]∧mz=e.args.length-k∧(k≤e.args.length)∧(m=PE.depL (Ex.pL (e.args.take k)))∧(m≤100)) (e.args.length-0) ⟨0,0,rfl,rfl,rfl,(Nat.zero_le _),rfl,(Nat.zero_le _)⟩ ?_
 rintro mz _ _ ⟨m,k,rfl,rfl,rfl,hk,hm,hmb⟩
 refine To.z 6 ?_
 refine To.cp rfl (fun c9=>?_) (fun c9=>?_)
 obtain⟨x,hx⟩:∃z0,e.args[k]?=some z0:=⟨e.args[k]'(by omega),gge _⟩
 have hxd:x.pure.dep≤100:=by
  have h:=PE.dep_mem (l:=Ex.pL e.args) (x:=x.pure) (by rw[Ex.pureL_map];exact List.mem_map.2 ⟨x,mog hx,rfl⟩)
  have h2:e.pure.dep=PE.depL (Ex.pL e.args)+1:=by rw[Ex.pure_eq e];rfl
  omega
 refine To.z 10 ?_
 refine To.part 2 rfl (x.kids encX) (Ex.lax encX x) (Ex.mem_kids hx) ?_
 refine To.z 7 ?_
 refine To.cQ rfl rfl rfl (Ent.fn rfl rfl ca171) (ih x (mog hx) (Ex.low_mem hlow (mog hx)) hxd) (by show owns (x.kids encX)++[]=[];rw[(Ex.lax encX x).owns];rfl) (ocs (oca 0 rfl) (ocn _)) ?_
 rintro _ _ ⟨rfl,rfl⟩
 refine⟨rfl,?_⟩
 refine To.r (Rd.as (v':=nv (max m x.pure.dep)) (congrArg (Value.int .i64) (by omega)) (Rd.max rfl rfl rfl)) ?_
 refine To.z 9 ?_
 refine To.sub [(1,pv b1),(3,nv ((max m x.pure.dep))),(7,nv e.args.length),(8,nv ((k+1)))] ⟨rfl,rfl,rfl,rfl,trivial⟩ ?_
 refine To.del0 ?_
 refine To.ag (e.args.length-(k+1)) (by omega) ⟨(max m x.pure.dep),k+1,rfl,rfl,rfl,(by omega),(by rw[take_of_get hx,Ex.pureL_map,List.map_append,←Ex.pureL_map];show _=PE.depL (Ex.pL (e.args.take k)++[x.pure]);rw[PE.depL_app,←hm]),(by omega)⟩
 refine To.z 13 ?_
 refine To.del2 (To.del1 (To.del0 (To.end1 (.inl rfl) Tryz.results171 rfl ?_)))
 have h2:e.pure.dep=m+1:=by rw[Ex.pure_eq e];show PE.depL (Ex.pL e.args)+1=_;rw[hm,List.take_of_length_le (by omega)]
 rw[h2];exact⟨rfl,rfl⟩
theorem qdep_fn:∀e:Ex,e.pure.low→e.pure.dep≤100→Does Tryz.prog 171 [.agg (encX e).toArray] [all (e.kids encX)] (fun v Γ'=>v=nv e.pure.dep∧Γ'=[])
 |e,h1,h2=>qdep_step e h1 h2 (fun x hx=>qdep_fn x)
termination_by e=>SizeOf.sizeOf e
decreasing_by
 cases e with
 | mk op s n A q l=>
   have:=List.sizeOf_lt_of_mem (show x∈l from hx)
   simp only[Ex.mk.sizeOf_spec]
   omega
theorem qnamedE_fn(P:Option Addr)(e:Ex)(hf:e.Fine):
    Does Tryz.prog 175 [.pointer (some ⟨blk P,ofs P+0*4,none⟩)] [ros encX P [e],glc] (fun v _=>v= .bool true):=by
 refine Does.enter Tryz.func175 rfl Tryz.ntmps175 rfl (fun w0=>?_)
 refine To.z 10 ?_
 refine To.r (Rd.ld (i:=0) rfl rfl c239 rfl (gvt (f:=0) (rsg encX_ok (show([e]:List Ex)[0]?=some e from rfl)) rfl)) ?_
 refine To.cQ rfl rfl rfl (Ent.fn rfl rfl ca219) (shape_fn hf.o1 hf.o2) rfl (oks_gl 1 rfl) ?_
 rintro _ _ ⟨c1,d1,rfl,rfl⟩
 refine⟨rfl,?_⟩
 refine To.z 3 ?_
 refine To.al fun b3=>?_
 refine To.z 9 ?_
 refine To.rdB rfl rfl rfl (Rd.move rfl rfl) (fun g16=>?_) (fun g16=>?_)
 refine To.z 10 ?_
 refine To.del2 (To.del1 (To.del0 (To.end1 (.inl rfl) Tryz.results175 rfl ?_)))
 rfl
 refine To.z 3 ?_
 refine To.r (Rd.ld (i:=1) rfl rfl c9 rfl (gvt (rsg encX_ok (show([e]:List Ex)[0]?=some e from rfl)) rfl)) ?_
 refine To.cV rfl rfl rfl (Ent.fn rfl rfl ca116) (isname_fn (hf.nm1 (by simpa using g16))) rfl (oks_gl 2 rfl) ?_
 refine To.z 5 ?_
 refine To.del2 (To.del1 (To.del0 (To.end1 (.inl rfl) Tryz.results175 rfl ?_)))
 rfl
theorem qformedE_fn(P:Option Addr)(e:Ex)(hf:e.Fine):
    Does Tryz.prog 176 [.pointer (some ⟨blk P,ofs P+0*4,none⟩)] [ros encX P [e],glc] (fun v _=>v= .bool true):=by
 refine Does.enter Tryz.func176 rfl Tryz.ntmps176 rfl (fun w0=>?_)
 refine To.z 10 ?_
 refine To.r (Rd.ld (i:=0) rfl rfl c239 rfl (gvt (f:=0) (rsg encX_ok (show([e]:List Ex)[0]?=some e from rfl)) rfl)) ?_
 refine To.cQ rfl rfl rfl (Ent.fn rfl rfl ca219) (shape_fn hf.o1 hf.o2) rfl (oks_gl 1 rfl) ?_
 rintro _ _ ⟨c1,d1,rfl,rfl⟩
 refine⟨rfl,?_⟩
 refine To.z 3 ?_
 refine To.al fun b3=>?_
 refine To.z 16 ?_
 refine To.flow [ros encX P [e],box b3 [nv (opnL.getD e.op 0), .bool (namL.getD e.op false), .int .i64 c1, .string d1] 349] [⟨0,[],0⟩,⟨1,[],0⟩,⟨2,[],0⟩,⟨3,[],0⟩,⟨4,[],0⟩,⟨5,[],0⟩,⟨6,[],0⟩,⟨7,[],0⟩,⟨8,[],0⟩] mixed (by kernel_rfl) (ocs (oca 1 rfl) (ocs (oca 0 rfl) (ocn _))) ?_
 refine To.z 3 ?_
 refine Fw.f rfl (Rd.ld (i:=0) rfl rfl c210 rfl (gvt (rsg encX_ok (show([e]:List Ex)[0]?=some e from rfl)) rfl)) ?_
 refine To.z 3 ?_
 refine Fw.f rfl (Rd.as (v':= .bool false) (congrArg Value.bool (decide_eq_false (fun h=>h (by rw[hf.args])))) (Rd.neq rfl rfl rfl)) ?_
 refine To.z 8 ?_
 refine To.rdB rfl rfl rfl (Rd.move rfl rfl) (fun g27=>?_) (fun g27=>?_)
 refine To.z 3 ?_
 refine To.r (Rd.ld (i:=1) rfl rfl c9 rfl (gvt (rsg encX_ok (show([e]:List Ex)[0]?=some e from rfl)) rfl)) ?_
 refine To.r (Rd.as (v':= .bool false) (congrArg Value.bool (decide_eq_false (fun h=>h (hf.nm2 (by simpa using g27))))) (Rd.neqZ rfl rfl rfl)) ?_
 refine To.z 10 ?_
 refine To.r (Rd.ld (i:=1) rfl rfl c239 rfl (gvt (f:=0) (rsg encX_ok (show([e]:List Ex)[0]?=some e from rfl)) rfl)) ?_
 refine To.z 4 ?_
 refine To.cp rfl (fun c34=>?_) (fun c34=>?_)
 refine To.z 5 ?_
 refine To.r (Rd.ld (i:=1) rfl rfl c2 rfl (gvt (rsg encX_ok (show([e]:List Ex)[0]?=some e from rfl)) rfl)) ?_
 refine To.r (Rd.as (v':= .bool true) (congrArg Value.bool (decide_eq_true (hf.n1 (by omega)))) (Rd.geq rfl rfl rfl)) ?_
 refine To.z 6 ?_
 refine To.del2 (To.del1 (To.del0 (To.end1 (.inl rfl) Tryz.results176 rfl ?_)))
 rfl
 refine To.z 8 ?_
 refine To.r (Rd.ld (i:=1) rfl rfl c2 rfl (gvt (rsg encX_ok (show([e]:List Ex)[0]?=some e from rfl)) rfl)) ?_
 refine To.r (Rd.as (v':= .bool true) (congrArg Value.bool (decide_eq_true (hf.n2 (by omega)))) (Rd.eql rfl rfl rfl)) ?_
 refine To.z 4 ?_
 refine To.del2 (To.del1 (To.del0 (To.end1 (.inl rfl) Tryz.results176 rfl ?_)))
 rfl
 refine To.z 15 ?_
 refine To.r (Rd.ld (i:=1) rfl rfl c239 rfl (gvt (f:=0) (rsg encX_ok (show([e]:List Ex)[0]?=some e from rfl)) rfl)) ?_
 refine To.z 4 ?_
 refine To.cp rfl (fun c34=>?_) (fun c34=>?_)
 refine To.z 5 ?_
 refine To.r (Rd.ld (i:=1) rfl rfl c2 rfl (gvt (rsg encX_ok (show([e]:List Ex)[0]?=some e from rfl)) rfl)) ?_
 refine To.r (Rd.as (v':= .bool true) (congrArg Value.bool (decide_eq_true (hf.n1 (by omega)))) (Rd.geq rfl rfl rfl)) ?_
 refine To.z 6 ?_
 refine To.del2 (To.del1 (To.del0 (To.end1 (.inl rfl) Tryz.results176 rfl ?_)))
 rfl
 refine To.z 8 ?_
 refine To.r (Rd.ld (i:=1) rfl rfl c2 rfl (gvt (rsg encX_ok (show([e]:List Ex)[0]?=some e from rfl)) rfl)) ?_
 refine To.r (Rd.as (v':= .bool true) (congrArg Value.bool (decide_eq_true (hf.n2 (by omega)))) (Rd.eql rfl rfl rfl)) ?_
 refine To.z 4 ?_
 refine To.del2 (To.del1 (To.del0 (To.end1 (.inl rfl) Tryz.results176 rfl ?_)))
 rfl
theorem qevN_step(e:Ex)(hlow:e.pure.low)(hfin:e.pure.fine)(ih:∀x∈e.args,∀P:Option Addr,x.pure.low→x.pure.fine→Does Tryz.prog 218 [.pointer (some ⟨blk P,ofs P+0*4,none⟩), .func (.func 175) #[] #[]] [ros encX P [x],all (x.kids encX),glc] (fun v Γ'=>v= .bool true∧Γ'=[]))(P:Option Addr):
    Does Tryz.prog 218 [.pointer (some ⟨blk P,ofs P+0*4,none⟩), .func (.func 175) #[] #[]] [ros encX P [e],all (e.kids encX),glc] (fun v Γ'=>v= .bool true∧Γ'=[]):=by
 obtain⟨hop,hal⟩:=Ex.low_op hlow
 have hf:=Ex.fine_at hfin
 refine Does.enter Tryz.func218 rfl Tryz.ntmps218 rfl (fun w0=>?_)
 refine To.z 10 ?_
 refine To.cV rfl rfl rfl (Ent.func (first:=[]) (captured:=[]) rfl rfl rfl ca175) (qnamedE_fn P e hf) rfl (ocs (oca 0 rfl) (ocs (oca 2 rfl) (ocn _))) ?_
 refine To.z 8 ?_
 refine To.one 1 rfl (ros encX e.A e.args) rfl (Ex.args_kids e) ?_
 refine To.z 4 ?_
 refine To.r (Rd.ld (i:=1) rfl rfl c210 rfl (gvt (rsg encX_ok (show([e]:List Ex)[0]?=some e from rfl)) rfl)) ?_
 refine To.z 5 ?_
 refine To.sub [(0, .pointer (some ⟨blk P,ofs P+0*4,none⟩)),(1, .func (.func 175) #[] #[]),(14,nv e.args.length),(15,nv 0)] ⟨rfl,rfl,rfl,rfl,trivial⟩ ?_
 refine To.up1 ?_
 refine To.loop (fun mz ρ Γ=>∃(k:Nat),ρ=[(0, .pointer (some ⟨blk P,ofs P+0*4,none⟩)),(1, .func (.func 175) #[] #[]),(14,nv e.args.length),(15,nv k)]∧Γ=[ros encX P [e],ros encX e.A e.args,all (e.kids encX),glc]∧mz=e.args.length-k∧(k≤e.args.length)) (e.args.length-0) ⟨0,rfl,rfl,rfl,(Nat.zero_le _)⟩ ?_
 rintro mz _ _ ⟨k,rfl,rfl,rfl,hk⟩
 refine To.z 6 ?_
 refine To.cp rfl (fun c16=>?_) (fun c16=>?_)
 obtain⟨x,hx⟩:∃z0,e.args[k]?=some z0:=⟨e.args[k]'(by omega),gge _⟩
 refine To.z 11 ?_
 refine To.elemR encX_ok (by decide) 1 rfl hx (To.part 3 rfl (x.kids encX) (Ex.lax encX x) (Ex.mem_kids hx) ?_)
 refine To.z 4 ?_
 refine To.r (Rd.ld (i:=2) rfl rfl c210 rfl (gvt (rsg encX_ok (show([e]:List Ex)[0]?=some e from rfl)) rfl)) ?_
 refine To.z 3 ?_
 refine To.cQ rfl rfl rfl (Ent.fn rfl rfl ca218) (ih x (mog hx) (some ⟨blk e.A,ofs e.A+k*4,none⟩) (Ex.low_mem hlow (mog hx)) (Ex.fine_mem hfin (mog hx))) (by show[]++(owns (x.kids encX)++(owns gl++[]))=[];rw[(Ex.lax encX x).owns];rfl) (ocs (oca 1 rfl) (ocs (oca 0 rfl) (ocs (oca 5 rfl) (ocn _)))) ?_
 rintro _ _ ⟨rfl,rfl⟩
 refine⟨rfl,?_⟩
 refine To.z 12 ?_
 refine To.sub [(0, .pointer (some ⟨blk P,ofs P+0*4,none⟩)),(1, .func (.func 175) #[] #[]),(14,nv e.args.length),(15,nv ((k+1)))] ⟨rfl,rfl,rfl,rfl,trivial⟩ ?_
 refine To.del1 (To.del0 ?_)
 refine To.ag (e.args.length-(k+1)) (by omega) ⟨k+1,rfl,rfl,rfl,(by omega)⟩
 refine To.z 11 ?_
 refine To.del3 (To.del2 (To.del1 (To.del0 (To.end1 (.inl rfl) Tryz.results218 rfl ?_))))
 exact⟨rfl,rfl⟩
theorem qevN_fn:∀(e:Ex) (P:Option Addr),e.pure.low→e.pure.fine→Does Tryz.prog 218 [.pointer (some ⟨blk P,ofs P+0*4,none⟩), .func (.func 175) #[] #[]] [ros encX P [e],all (e.kids encX),glc] (fun v Γ'=>v= .bool true∧Γ'=[])
 |e,P,h1,h2=>qevN_step e h1 h2 (fun x hx=>qevN_fn x) P
termination_by e=>SizeOf.sizeOf e
decreasing_by
 cases e with
 | mk op s n A q l=>
   have:=List.sizeOf_lt_of_mem (show x∈l from hx)
   simp only[Ex.mk.sizeOf_spec]
   omega
theorem qwiN_fn(P:Option Addr)(s:St)(hle:s.exprs.length≤4)(hlow:PE.lowL (Ex.pL s.exprs))(hfin:PE.fineL (Ex.pL s.exprs)):
    Does Tryz.prog 174 [.pointer (some ⟨blk P,ofs P+0*6,none⟩), .func (.func 175) #[] #[]] [ros encT P [s],all (lsF encX s.A s.exprs),glc] (fun v Γ'=>v= .bool true∧Γ'=[]):=by
 refine Does.enter Tryz.func174 rfl Tryz.ntmps174 rfl (fun w0=>?_)
 refine To.z 7 ?_
 refine To.one 1 rfl (ros encX s.A s.exprs) rfl (List.mem_cons_self ..) ?_
 refine To.z 4 ?_
 refine To.r (Rd.ld (i:=1) rfl rfl c210 rfl (gvt (rsg encT_ok (show([s]:List St)[0]?=some s from rfl)) rfl)) ?_
 refine To.z 5 ?_
 refine To.sub [(0, .pointer (some ⟨blk P,ofs P+0*6,none⟩)),(1, .func (.func 175) #[] #[]),(10,nv s.exprs.length),(11,nv 0)] ⟨rfl,rfl,rfl,rfl,trivial⟩ ?_
 refine To.up1 ?_
 refine To.loop (fun mz ρ Γ=>∃(k:Nat),ρ=[(0, .pointer (some ⟨blk P,ofs P+0*6,none⟩)),(1, .func (.func 175) #[] #[]),(10,nv s.exprs.length),(11,nv k)]∧Γ=[ros encT P [s],ros encX s.A s.exprs,all (lsF encX s.A s.exprs),glc]∧mz=s.exprs.length-k∧(k≤s.exprs.length)) (s.exprs.length-0) ⟨0,rfl,rfl,rfl,(Nat.zero_le _)⟩ ?_
 rintro mz _ _ ⟨k,rfl,rfl,rfl,hk⟩
 refine To.z 6 ?_
 refine To.cp rfl (fun c12=>?_) (fun c12=>?_)
 obtain⟨x,hx⟩:∃z0,s.exprs[k]?=some z0:=⟨s.exprs[k]'(by omega),gge _⟩
 refine To.z 11 ?_
 refine To.elemR encX_ok (by decide) 1 rfl hx (To.part 3 rfl (x.kids encX) (Ex.lax encX x) (ls_mem hx) ?_)
 refine To.z 4 ?_
 refine To.r (Rd.ld (i:=2) rfl rfl c210 rfl (gvt (rsg encT_ok (show([s]:List St)[0]?=some s from rfl)) rfl)) ?_
 refine To.z 3 ?_
 refine To.cQ rfl rfl rfl (Ent.fn rfl rfl ca218) (qevN_fn x (some ⟨blk s.A,ofs s.A+k*4,none⟩) (Ex.lowL_at hlow (mog hx)) (Ex.fineL_at hfin (mog hx))) (by show[]++(owns (x.kids encX)++(owns gl++[]))=[];rw[(Ex.lax encX x).owns];rfl) (ocs (oca 1 rfl) (ocs (oca 0 rfl) (ocs (oca 5 rfl) (ocn _)))) ?_
 rintro _ _ ⟨rfl,rfl⟩
 refine⟨rfl,?_⟩
 refine To.z 12 ?_
 refine To.sub [(0, .pointer (some ⟨blk P,ofs P+0*6,none⟩)),(1, .func (.func 175) #[] #[]),(10,nv s.exprs.length),(11,nv ((k+1)))] ⟨rfl,rfl,rfl,rfl,trivial⟩ ?_
 refine To.del1 (To.del0 ?_)
 refine To.ag (s.exprs.length-(k+1)) (by omega) ⟨k+1,rfl,rfl,rfl,(by omega)⟩
 refine To.z 11 ?_
 refine To.del3 (To.del2 (To.del1 (To.del0 (To.end1 (.inl rfl) Tryz.results174 rfl ?_))))
 exact⟨rfl,rfl⟩
theorem qevF_step(e:Ex)(hlow:e.pure.low)(hfin:e.pure.fine)(ih:∀x∈e.args,∀P:Option Addr,x.pure.low→x.pure.fine→Does Tryz.prog 218 [.pointer (some ⟨blk P,ofs P+0*4,none⟩), .func (.func 176) #[] #[]] [ros encX P [x],all (x.kids encX),glc] (fun v Γ'=>v= .bool true∧Γ'=[]))(P:Option Addr):
    Does Tryz.prog 218 [.pointer (some ⟨blk P,ofs P+0*4,none⟩), .func (.func 176) #[] #[]] [ros encX P [e],all (e.kids encX),glc] (fun v Γ'=>v= .bool true∧Γ'=[]):=by
 obtain⟨hop,hal⟩:=Ex.low_op hlow
 have hf:=Ex.fine_at hfin
 refine Does.enter Tryz.func218 rfl Tryz.ntmps218 rfl (fun w0=>?_)
 refine To.z 10 ?_
 refine To.cV rfl rfl rfl (Ent.func (first:=[]) (captured:=[]) rfl rfl rfl ca176) (qformedE_fn P e hf) rfl (ocs (oca 0 rfl) (ocs (oca 2 rfl) (ocn _))) ?_
 refine To.z 8 ?_
 refine To.one 1 rfl (ros encX e.A e.args) rfl (Ex.args_kids e) ?_
 refine To.z 4 ?_
 refine To.r (Rd.ld (i:=1) rfl rfl c210 rfl (gvt (rsg encX_ok (show([e]:List Ex)[0]?=some e from rfl)) rfl)) ?_
 refine To.z 5 ?_
 refine To.sub [(0, .pointer (some ⟨blk P,ofs P+0*4,none⟩)),(1, .func (.func 176) #[] #[]),(14,nv e.args.length),(15,nv 0)] ⟨rfl,rfl,rfl,rfl,trivial⟩ ?_
 refine To.up1 ?_
 refine To.loop (fun mz ρ Γ=>∃(k:Nat),ρ=[(0, .pointer (some ⟨blk P,ofs P+0*4,none⟩)),(1, .func (.func 176) #[] #[]),(14,nv e.args.length),(15,nv k)]∧Γ=[ros encX P [e],ros encX e.A e.args,all (e.kids encX),glc]∧mz=e.args.length-k∧(k≤e.args.length)) (e.args.length-0) ⟨0,rfl,rfl,rfl,(Nat.zero_le _)⟩ ?_
 rintro mz _ _ ⟨k,rfl,rfl,rfl,hk⟩
 refine To.z 6 ?_
 refine To.cp rfl (fun c16=>?_) (fun c16=>?_)
 obtain⟨x,hx⟩:∃z0,e.args[k]?=some z0:=⟨e.args[k]'(by omega),gge _⟩
 refine To.z 11 ?_
 refine To.elemR encX_ok (by decide) 1 rfl hx (To.part 3 rfl (x.kids encX) (Ex.lax encX x) (Ex.mem_kids hx) ?_)
 refine To.z 4 ?_
 refine To.r (Rd.ld (i:=2) rfl rfl c210 rfl (gvt (rsg encX_ok (show([e]:List Ex)[0]?=some e from rfl)) rfl)) ?_
 refine To.z 3 ?_
 refine To.cQ rfl rfl rfl (Ent.fn rfl rfl ca218) (ih x (mog hx) (some ⟨blk e.A,ofs e.A+k*4,none⟩) (Ex.low_mem hlow (mog hx)) (Ex.fine_mem hfin (mog hx))) (by show[]++(owns (x.kids encX)++(owns gl++[]))=[];rw[(Ex.lax encX x).owns];rfl) (ocs (oca 1 rfl) (ocs (oca 0 rfl) (ocs (oca 5 rfl) (ocn _)))) ?_
 rintro _ _ ⟨rfl,rfl⟩
 refine⟨rfl,?_⟩
 refine To.z 12 ?_
 refine To.sub [(0, .pointer (some ⟨blk P,ofs P+0*4,none⟩)),(1, .func (.func 176) #[] #[]),(14,nv e.args.length),(15,nv ((k+1)))] ⟨rfl,rfl,rfl,rfl,trivial⟩ ?_
 refine To.del1 (To.del0 ?_)
 refine To.ag (e.args.length-(k+1)) (by omega) ⟨k+1,rfl,rfl,rfl,(by omega)⟩
 refine To.z 11 ?_
 refine To.del3 (To.del2 (To.del1 (To.del0 (To.end1 (.inl rfl) Tryz.results218 rfl ?_))))
 exact⟨rfl,rfl⟩
theorem qevF_fn:∀(e:Ex) (P:Option Addr),e.pure.low→e.pure.fine→Does Tryz.prog 218 [.pointer (some ⟨blk P,ofs P+0*4,none⟩), .func (.func 176) #[] #[]] [ros encX P [e],all (e.kids encX),glc] (fun v Γ'=>v= .bool true∧Γ'=[])
 |e,P,h1,h2=>qevF_step e h1 h2 (fun x hx=>qevF_fn x) P
termination_by e=>SizeOf.sizeOf e
decreasing_by
 cases e with
 | mk op s n A q l=>
   have:=List.sizeOf_lt_of_mem (show x∈l from hx)
   simp only[Ex.mk.sizeOf_spec]
   omega
theorem qwiF_fn(P:Option Addr)(s:St)(hle:s.exprs.length≤4)(hlow:PE.lowL (Ex.pL s.exprs))(hfin:PE.fineL (Ex.pL s.exprs)):
    Does Tryz.prog 174 [.pointer (some ⟨blk P,ofs P+0*6,none⟩), .func (.func 176) #[] #[]] [ros encT P [s],all (lsF encX s.A s.exprs),glc] (fun v Γ'=>v= .bool true∧Γ'=[]):=by
 refine Does.enter Tryz.func174 rfl Tryz.ntmps174 rfl (fun w0=>?_)
 refine To.z 7 ?_
 refine To.one 1 rfl (ros encX s.A s.exprs) rfl (List.mem_cons_self ..) ?_
 refine To.z 4 ?_
 refine To.r (Rd.ld (i:=1) rfl rfl c210 rfl (gvt (rsg encT_ok (show([s]:List St)[0]?=some s from rfl)) rfl)) ?_
 refine To.z 5 ?_
 refine To.sub [(0, .pointer (some ⟨blk P,ofs P+0*6,none⟩)),(1, .func (.func 176) #[] #[]),(10,nv s.exprs.length),(11,nv 0)] ⟨rfl,rfl,rfl,rfl,trivial⟩ ?_
 refine To.up1 ?_
 refine To.loop (fun mz ρ Γ=>∃(k:Nat),ρ=[(0, .pointer (some ⟨blk P,ofs P+0*6,none⟩)),(1, .func (.func 176) #[] #[]),(10,nv s.exprs.length),(11,nv k)]∧Γ=[ros encT P [s],ros encX s.A s.exprs,all (lsF encX s.A s.exprs),glc]∧mz=s.exprs.length-k∧(k≤s.exprs.length)) (s.exprs.length-0) ⟨0,rfl,rfl,rfl,(Nat.zero_le _)⟩ ?_
 rintro mz _ _ ⟨k,rfl,rfl,rfl,hk⟩
 refine To.z 6 ?_
 refine To.cp rfl (fun c12=>?_) (fun c12=>?_)
 obtain⟨x,hx⟩:∃z0,s.exprs[k]?=some z0:=⟨s.exprs[k]'(by omega),gge _⟩
 refine To.z 11 ?_
 refine To.elemR encX_ok (by decide) 1 rfl hx (To.part 3 rfl (x.kids encX) (Ex.lax encX x) (ls_mem hx) ?_)
 refine To.z 4 ?_
 refine To.r (Rd.ld (i:=2) rfl rfl c210 rfl (gvt (rsg encT_ok (show([s]:List St)[0]?=some s from rfl)) rfl)) ?_
 refine To.z 3 ?_
 refine To.cQ rfl rfl rfl (Ent.fn rfl rfl ca218) (qevF_fn x (some ⟨blk s.A,ofs s.A+k*4,none⟩) (Ex.lowL_at hlow (mog hx)) (Ex.fineL_at hfin (mog hx))) (by show[]++(owns (x.kids encX)++(owns gl++[]))=[];rw[(Ex.lax encX x).owns];rfl) (ocs (oca 1 rfl) (ocs (oca 0 rfl) (ocs (oca 5 rfl) (ocn _)))) ?_
 rintro _ _ ⟨rfl,rfl⟩
 refine⟨rfl,?_⟩
 refine To.z 12 ?_
 refine To.sub [(0, .pointer (some ⟨blk P,ofs P+0*6,none⟩)),(1, .func (.func 176) #[] #[]),(10,nv s.exprs.length),(11,nv ((k+1)))] ⟨rfl,rfl,rfl,rfl,trivial⟩ ?_
 refine To.del1 (To.del0 ?_)
 refine To.ag (s.exprs.length-(k+1)) (by omega) ⟨k+1,rfl,rfl,rfl,(by omega)⟩
 refine To.z 11 ?_
 refine To.del3 (To.del2 (To.del1 (To.del0 (To.end1 (.inl rfl) Tryz.results174 rfl ?_))))
 exact⟨rfl,rfl⟩
end Go.Proofs.YtihgdnjkofpgiaaGreatDoor

/- Own text. -/
import Derived.Test.YtihgdnjkofpgiaaGreatDoorKa
import Derived.Test.YtihgdnjkofpgiaaGreatDoorQb
set_option maxHeartbeats 8000000
set_option maxRecDepth 100000
set_option linter.unusedVariables false
set_option linter.unusedSimpArgs false
namespace Go.Proofs.YtihgdnjkofpgiaaGreatDoor
open Go.Proofs.Tryz
open Go.RowKit Go.Flow Go.Mem Go.Sep Go.In
mutual
def PE.dep:PE→Nat
 |⟨_,_,_,l⟩=>Ic l+1
def Ic:List PE→Nat
 |[]=>0
 |e::r=>max (PE.dep e) (Ic r)
end
theorem iU:∀(l:List PE) (x:PE),Ic (l++[x])=max (Ic l) x.dep
 |[],x=>by show max x.dep 0=max 0 x.dep;omega
 |e::r,x=>by show max e.dep (Ic (r++[x]))=max (max e.dep (Ic r)) x.dep;rw[iU r x];omega
theorem nW:∀{l:List PE} {x:PE},x∈l→x.dep≤Ic l
 | e::r,x,h=>by
   show x.dep≤max e.dep (Ic r);rcases aPi.1 h with rfl|h
   ·omega
   ·have:=nW h;omega
mutual
def PE.fine:PE→Prop
 |⟨o,s,n,l⟩=>(1≤o∧o≤23)∧l.length=dW.getD o 0∧((jF.getD o false=true→Oc s)∧(jF.getD o false=false→s=nE))∧((o=1→0≤n∧n≤9)∧(o≠1→n=0))∧Od l
def Od:List PE→Prop
 |[]=>True
 |e::r=>PE.fine e∧Od r
end
theorem Wh:∀{l:List PE},Od l→∀x∈l,x.fine
 |[],_,x,h=>by cases h
 | e::r,h,x,hx=>by
   rcases aPi.1 hx with rfl|hx
   ·exact h.1
   ·exact Wh h.2 x hx
theorem iV:∀{l:List PE},(∀x∈l,x.fine)→Od l
 |[],_=>trivial
 |e::r,h=>⟨h e (aPc ..),iV fun x hx=>h x (aPb _ hx)⟩
theorem Ey{e x:Ex}(h:e.pure.fine)(hx:x∈e.args):x.pure.fine:=by
 rw[Et]at h;refine Wh h.2.2.2.2 x.pure ?_;rw[Bj];exact aPx.2 ⟨x,hx,rfl⟩
theorem Yq{l:List Ex}(h:Od (Cv l)){x:Ex}(hx:x∈l):x.pure.fine:=Wh h x.pure (by rw[Bj];exact aPx.2 ⟨x,hx,rfl⟩)
structure Ex.Fine(e:Ex):Prop where
 o1:1≤e.op
 o2:e.op≤23
 args:e.args.length=dW.getD e.op 0
 nm1:jF.getD e.op false=true→Oc e.name
 nm2:jF.getD e.op false=false→e.name=nE
 n1:e.op=1→0≤e.n
 n3:e.op=1→e.n≤9
 n2:e.op≠1→e.n=0
theorem Jk{e:Ex}(h:e.pure.fine):e.Fine:=by
 rw[Et]at h;obtain⟨⟨h1,h2⟩,h3,⟨h4,h5⟩,⟨h6,h7⟩,_⟩:=h;rw[Bj,aPg]at h3;exact⟨h1,h2,h3,h4,h5,fun h=>(h6 h).1,fun h=>(h6 h).2,h7⟩
theorem aBs(o:Nat):dW.getD o 0≤2:=by
 by_cases h:o<24
 · have all:∀o,o<24→dW.getD o 0≤2:=by decide
   exact all o h
 ·show(dW[o]?).getD 0≤2;rw[List.getElem?_eq_none (by show 24≤o;omega)];exact aQb _
section
variable{c:Ct}{np:Nat}
theorem un1{o:Nat}{s:yB}{e:PE}(h:e.fine)(ho:o=9∨o=10):PE.fine ⟨o,nE,0,[e]⟩:=by
 rcases ho with rfl|rfl<;>exact⟨by decide,rfl,⟨fun h=>(by cases h),fun _=>rfl⟩,⟨fun h=>om,fun _=>rfl⟩,h,trivial⟩
theorem bi2{o:Nat}{a b:PE}(ha:a.fine)(hb:b.fine)(h1:11≤o)(h2:o≤23):PE.fine ⟨o,nE,0,[a,b]⟩:=by
 have all:∀o,o<24→11≤o→dW.getD o 0=2∧jF.getD o false=false:=by decide
 obtain⟨e1,e2⟩:=all o om h1;refine⟨⟨by omega,h2⟩,by rw[e1];rfl,⟨fun h=>?_,fun _=>rfl⟩,⟨fun h=>om,fun _=>rfl⟩,ha,hb,trivial⟩;rw[e2]at h;cases h
theorem lf0{o:Nat}{s:yB}{n:Int}(ho:1≤o∧o≤5∨o=8)(h1:o=5∨o=8→Oc s)(h2:o≠5→o≠8→s=nE)(h3:o=1→0≤n∧n≤9)(h4:o≠1→n=0):PE.fine ⟨o,s,n,[]⟩:=by
 have all:∀o,o<24→(1≤o∧o≤5∨o=8)→dW.getD o 0=0∧(jF.getD o false=true↔o=5∨o=8):=by decide
 obtain⟨e1,e2⟩:=all o om ho;refine⟨by omega,by rw[e1];rfl,⟨fun h=>h1 (e2.1 h),fun h=>?_⟩,⟨h3,h4⟩,trivial⟩;have:¬(o=5∨o=8):=fun h5=>by rw[e2.2 h5]at h;cases h
 exact h2 om om
theorem tb1{o:Nat}{s:yB}{e:PE}(h:e.fine)(hs:Oc s)(ho:o=6∨o=7):PE.fine ⟨o,s,0,[e]⟩:=by
 rcases ho with rfl|rfl<;>exact⟨by decide,rfl,⟨fun _=>hs,fun h=>(by cases h)⟩,⟨fun h=>om,fun _=>rfl⟩,h,trivial⟩
theorem Kv.fine(ok:c.Ok)(hnp:np≤2){d:Nat}{e:PE}(h:Kv c np d e):e.fine∧e.dep≤d+1:=by
 have hi:=ok.ints
 induction h with
 |num d n h=>exact⟨lf0 om om (fun _ _=>rfl) (fun _=>by omega) om,Nat.le_add_left 1 d⟩
 |var d k h=>exact⟨lf0 om (fun _=>vW om) om om (fun _=>rfl),Nat.le_add_left 1 d⟩
 |par d k h=>exact⟨lf0 om (fun _=>VA om) om om (fun _=>rfl),Nat.le_add_left 1 d⟩
 |now d=>exact⟨lf0 om om (fun _ _=>rfl) om (fun _=>rfl),Nat.le_add_left 1 d⟩
 |get d e ht h ih=>exact⟨tb1 ih.1 Zl (.inl rfl),by show max e.dep 0+1≤_;have:=ih.2;omega⟩
 |size d ht=>exact⟨lf0 om (fun _=>Zl) om om (fun _=>rfl),Nat.le_add_left 1 d⟩
 |neg d e h ih=>exact⟨un1 (s:=nE) ih.1 (.inl rfl),by show max e.dep 0+1≤_;have:=ih.2;omega⟩
 |bin d op a b ho ha hb iha ihb=>exact⟨bi2 iha.1 ihb.1 om om,by show max a.dep (max b.dep 0)+1≤_;have:=iha.2;have:=ihb.2;omega⟩
theorem Pn.fine(ok:c.Ok)(hnp:np≤2){d:Nat}{e:PE}(h:Pn c np d e):e.fine∧e.dep≤d+4:=by
 have hf:=ok.flags
 induction h with
 |tf d op h=>exact⟨lf0 om om (fun _ _=>rfl) om (fun _=>rfl),show 1≤d+4 by omega⟩
 |b0 d=>exact⟨lf0 om (fun _=>vY) om om (fun _=>rfl),show 1≤d+4 by omega⟩
 |flag d k h=>exact⟨lf0 om (fun _=>VB om) om om (fun _=>rfl),show 1≤d+4 by omega⟩
 |has d e ht h=>have:=h.fine ok hnp;exact⟨tb1 this.1 Zl (.inr rfl),by show max e.dep 0+1≤_;omega⟩
 |not d e h ih=>exact⟨un1 (s:=nE) ih.1 (.inr rfl),by show max e.dep 0+1≤_;have:=ih.2;omega⟩
 |two d op a b ho ha hb iha ihb=>exact⟨bi2 iha.1 ihb.1 om om,by show max a.dep (max b.dep 0)+1≤_;have:=iha.2;have:=ihb.2;omega⟩
 |cmp d op a b ho ha hb=>have:=ha.fine ok hnp;have:=hb.fine ok hnp;exact⟨bi2 ‹a.fine∧_›.1 ‹b.fine∧_›.1 om om,by show max a.dep (max b.dep 0)+1≤_;omega⟩
end
theorem NV(e:Ex)(hlow:e.pure.low)(hd:e.pure.dep≤100)(ih:∀x∈e.args,x.pure.low→x.pure.dep≤100→Dz 171 [.agg (Be x).toArray] [all (x.kids Be)] (fun v Γ'=>v=nv x.pure.dep∧Γ'=[])):
    Dz 171 [.agg (Be e).toArray] [all (e.kids Be)] (fun v Γ'=>v=nv e.pure.dep∧Γ'=[]):=by
 obtain⟨hop,hal⟩:=Ru hlow;refine Ba func171 ntmps171 fun w0=>?_;refine Js (dh (Jbo fun b1=>?_));refine Jz 10 ?_;refine bz 1 rfl (ros Be e.A e.args) rfl (Ib e) (Jz 8 ?_);refine Bz (fun s g mz ρ Γ=>∃(m:Nat) (k:Nat),ρ=[s 1,(3,nv m),s 7,(8,nv k)]∧Γ=[g 1,g 0,g 2]∧mz=e.args.length-k∧(k≤e.args.length)∧(m=Ic (Cv (e.args.take k)))∧(m≤100)) ⟨⟨0,0,rfl,rfl,rfl,om,rfl,om⟩,sb⟩ ?_;rintro mz _ _ ⟨m,k,rfl,rfl,rfl,hk,hm,hmb⟩;refine Jz 6 ?_;refine ax rfl ?_ ?_<;>intro c9;obtain⟨x,hx⟩:=bq e.args k om;have hxd:x.pure.dep≤100:=by
  have h:=nW (l:=Cv e.args) (x:=x.pure) (by rw[Bj];exact aPx.2 ⟨x,av hx,rfl⟩);have h2:e.pure.dep=Ic (Cv e.args)+1:=by rw[Et e];rfl
  omega
 refine Jz 10 ?_;refine Cg 2 rfl (x.kids Be) (Ex.lax Be x) (Hq hx) (Jz 7 ?_);refine Jqf (ih x (av hx) (Gy hlow (av hx)) hxd) (by show owns (x.kids Be)++[]=[];rw[(Ex.lax Be x).owns];rfl) (ag (au 0 rfl) (af _)) ?_;rintro _ _ ⟨rfl,rfl⟩;refine⟨rfl,?_⟩;refine Jr (Cn (v':=nv (max m x.pure.dep)) (aPe iv om) (Rd.max rfl rfl rfl)) ?_;refine Jz 9 ?_;refine Bp ⟨⟨(max m x.pure.dep),k+1,rfl,rfl,rfl,om,(by rw[Cy hx,Bj,aPn,←Bj];show _=Ic (Cv (e.args.take k)++[x.pure]);rw[iU,←hm]),om⟩,sb⟩;refine Jz 13 ?_;refine Ck (Cr (Cq (bv results171 ?_)));have h2:e.pure.dep=m+1:=by rw[Et e];show Ic (Cv e.args)+1=_;rw[hm,aQa om]
 rw[h2];exact⟨rfl,rfl⟩
theorem KA:∀e:Ex,e.pure.low→e.pure.dep≤100→Dz 171 [.agg (Be e).toArray] [all (e.kids Be)] (fun v Γ'=>v=nv e.pure.dep∧Γ'=[])
 |e,h1,h2=>NV e h1 h2 (fun x hx=>KA x)
termination_by e=>SizeOf.sizeOf e
decreasing_by
 cases e with
 | mk op s n A q l=>
   have:=aQr (show x∈l from hx);simp only[Ex.mk.sizeOf_spec];omega
theorem FR(P:OA)(e:Ex)(hf:e.Fine):
    Dz 175 [.pointer (some ⟨blk P,ofs P+0*4,none⟩)] [ros Be P [e],glc] (fun v _=>v=bt):=by
 refine Ba func175 ntmps175 fun w0=>?_;refine Jz 10 ?_;refine Jr (Cu (i:=0) rfl rfl aAt rfl (gvt (f:=0) (rsg Gw (show([e]:List Ex)[0]?=some e from rfl)) rfl)) ?_;refine Jqf (zL hf.o1 hf.o2) rfl (Mm 1 rfl) ?_;rintro _ _ ⟨c1,d1,rfl,rfl⟩;refine⟨rfl,?_⟩;refine Jz 3 ?_;refine ay fun b3=>?_;refine Jz 9 ?_;refine JgB ?_ ?_<;>intro g16;refine Jz 10 ?_;refine Ck (Cr (Cq (bv results175 ?_)));rfl;refine Jz 3 ?_;refine Jr (Cu (i:=1) rfl rfl c9 rfl (gvt (rsg Gw (show([e]:List Ex)[0]?=some e from rfl)) rfl)) ?_;refine Jvf (Kh (hf.nm1 (by simpa using g16))) rfl (Mm 2 rfl) ?_;refine Jz 5 ?_;refine Ck (Cr (Cq (bv results175 ?_)));rfl
theorem zP(P:OA)(e:Ex)(hf:e.Fine):
    Dz 176 [.pointer (some ⟨blk P,ofs P+0*4,none⟩)] [ros Be P [e],glc] (fun v _=>v=bt):=by
 refine Ba func176 ntmps176 fun w0=>?_;refine Jz 10 ?_;refine Jr (Cu (i:=0) rfl rfl aAt rfl (gvt (f:=0) (rsg Gw (show([e]:List Ex)[0]?=some e from rfl)) rfl)) ?_;refine Jqf (zL hf.o1 hf.o2) rfl (Mm 1 rfl) ?_;rintro _ _ ⟨c1,d1,rfl,rfl⟩;refine⟨rfl,?_⟩;refine Jz 3 ?_;refine ay fun b3=>?_;refine Jz 16 ?_;refine Jfw [ros Be P [e],box b3 [nv (dW.getD e.op 0), .bool (jF.getD e.op false),iv c1, .string d1] 349] [0,1,2,3,4,5,6,7,8] (ag (au 1 rfl) (ag (au 0 rfl) (af _))) ?_;refine Jz 3 ?_;refine di rfl (Cu (i:=0) rfl rfl Sz rfl (gvt (rsg Gw (show([e]:List Ex)[0]?=some e from rfl)) rfl)) ?_;refine Jz 3 ?_;refine di rfl (Cn (v':=bf) (aPe Value.bool (aQk (fun h=>h (by rw[hf.args])))) (Rd.neq rfl rfl rfl)) ?_;refine Jz 8 ?_;refine JgB ?_ ?_<;>intro g27;refine Jz 3 ?_;refine Jr (Cu (i:=1) rfl rfl c9 rfl (gvt (rsg Gw (show([e]:List Ex)[0]?=some e from rfl)) rfl)) ?_;refine Jr (Cn (v':=bf) (aPe Value.bool (aQk (fun h=>h (hf.nm2 (by simpa using g27))))) (dV rfl rfl rfl)) ?_;refine Jz 10 ?_;refine Jr (Cu (i:=1) rfl rfl aAt rfl (gvt (f:=0) (rsg Gw (show([e]:List Ex)[0]?=some e from rfl)) rfl)) ?_;refine Jz 4 ?_;refine ax rfl ?_ ?_<;>intro c34;refine Jz 5 ?_;refine Jr (Cu (i:=1) rfl rfl c2 rfl (gvt (rsg Gw (show([e]:List Ex)[0]?=some e from rfl)) rfl)) ?_;refine Jr (Cn (v':=bt) (aPe Value.bool (aQg (hf.n1 om))) (Rd.geq rfl rfl rfl)) ?_;refine Jz 6 ?_;refine Ck (Cr (Cq (bv results176 ?_)));rfl;refine Jz 8 ?_;refine Jr (Cu (i:=1) rfl rfl c2 rfl (gvt (rsg Gw (show([e]:List Ex)[0]?=some e from rfl)) rfl)) ?_;refine Jr (Cn (v':=bt) (aPe Value.bool (aQg (hf.n2 om))) (Rd.eql rfl rfl rfl)) ?_;refine Jz 4 ?_;refine Ck (Cr (Cq (bv results176 ?_)));rfl;refine Jz 15 ?_;refine Jr (Cu (i:=1) rfl rfl aAt rfl (gvt (f:=0) (rsg Gw (show([e]:List Ex)[0]?=some e from rfl)) rfl)) ?_;refine Jz 4 ?_;refine ax rfl ?_ ?_<;>intro c34;refine Jz 5 ?_;refine Jr (Cu (i:=1) rfl rfl c2 rfl (gvt (rsg Gw (show([e]:List Ex)[0]?=some e from rfl)) rfl)) ?_;refine Jr (Cn (v':=bt) (aPe Value.bool (aQg (hf.n1 om))) (Rd.geq rfl rfl rfl)) ?_;refine Jz 6 ?_;refine Ck (Cr (Cq (bv results176 ?_)));rfl;refine Jz 8 ?_;refine Jr (Cu (i:=1) rfl rfl c2 rfl (gvt (rsg Gw (show([e]:List Ex)[0]?=some e from rfl)) rfl)) ?_;refine Jr (Cn (v':=bt) (aPe Value.bool (aQg (hf.n2 om))) (Rd.eql rfl rfl rfl)) ?_;refine Jz 4 ?_;refine Ck (Cr (Cq (bv results176 ?_)));rfl
theorem NW(e:Ex)(hlow:e.pure.low)(hfin:e.pure.fine)(ih:∀x∈e.args,∀P:OA,x.pure.low→x.pure.fine→Dz 218 [.pointer (some ⟨blk P,ofs P+0*4,none⟩), .func (.func 175) #[] #[]] [ros Be P [x],all (x.kids Be),glc] (fun v Γ'=>v=bt∧Γ'=[]))(P:OA):
    Dz 218 [.pointer (some ⟨blk P,ofs P+0*4,none⟩), .func (.func 175) #[] #[]] [ros Be P [e],all (e.kids Be),glc] (fun v Γ'=>v=bt∧Γ'=[]):=by
 obtain⟨hop,hal⟩:=Ru hlow;have hf:=Jk hfin;refine Ba func218 ntmps218 fun w0=>?_;refine Jz 10 ?_;refine JcV rfl rfl rfl (dn (first:=[]) (captured:=[]) rfl rfl rfl (kc.h 175 rfl)) (FR P e hf) rfl (ag (au 0 rfl) (ag (au 2 rfl) (af _))) (Jz 8 ?_);refine bz 1 rfl (ros Be e.A e.args) rfl (Ib e) (Jz 4 ?_);refine Jr (Cu (i:=1) rfl rfl Sz rfl (gvt (rsg Gw (show([e]:List Ex)[0]?=some e from rfl)) rfl)) ?_;refine Jz 5 ?_;refine Bz (fun s g mz ρ Γ=>∃(k:Nat),ρ=[s 0,s 1,s 14,(15,nv k)]∧Γ=[g 1,g 0,g 2,glc]∧mz=e.args.length-k∧(k≤e.args.length)) ⟨⟨0,rfl,rfl,rfl,om⟩,sb⟩ ?_;rintro mz _ _ ⟨k,rfl,rfl,rfl,hk⟩;refine Jz 6 ?_;refine ax rfl ?_ ?_<;>intro c16;obtain⟨x,hx⟩:=bq e.args k om;refine Jz 11 ?_;refine aV Gw de 1 rfl hx (Cg 3 rfl (x.kids Be) (Ex.lax Be x) (Hq hx) (Jz 4 ?_));refine Jr (Cu (i:=2) rfl rfl Sz rfl (gvt (rsg Gw (show([e]:List Ex)[0]?=some e from rfl)) rfl)) ?_;refine Jz 3 ?_;refine Jqf (ih x (av hx) (some ⟨blk e.A,ofs e.A+k*4,none⟩) (Gy hlow (av hx)) (Ey hfin (av hx))) (by show[]++(owns (x.kids Be)++(owns gl++[]))=[];rw[(Ex.lax Be x).owns];rfl) (ag (au 1 rfl) (ag (au 0 rfl) (ag (au 5 rfl) (af _)))) ?_;rintro _ _ ⟨rfl,rfl⟩;refine⟨rfl,?_⟩;refine Jz 12 ?_;refine Bp ⟨⟨k+1,rfl,rfl,rfl,om⟩,sb⟩;refine Jz 11 ?_;refine Da (Ck (Cr (Cq (bv results218 ?_))));exact⟨rfl,rfl⟩
theorem KC:∀(e:Ex) (P:OA),e.pure.low→e.pure.fine→Dz 218 [.pointer (some ⟨blk P,ofs P+0*4,none⟩), .func (.func 175) #[] #[]] [ros Be P [e],all (e.kids Be),glc] (fun v Γ'=>v=bt∧Γ'=[])
 |e,P,h1,h2=>NW e h1 h2 (fun x hx=>KC x) P
termination_by e=>SizeOf.sizeOf e
decreasing_by
 cases e with
 | mk op s n A q l=>
   have:=aQr (show x∈l from hx);simp only[Ex.mk.sizeOf_spec];omega
theorem aBt(P:OA)(s:St)(hle:s.exprs.length≤4)(hlow:Kz (Cv s.exprs))(hfin:Od (Cv s.exprs)):
    Dz 174 [.pointer (some ⟨blk P,ofs P+0*6,none⟩), .func (.func 175) #[] #[]] [ros Ca P [s],all (lsF Be s.A s.exprs),glc] (fun v Γ'=>v=bt∧Γ'=[]):=by
 refine Ba func174 ntmps174 fun w0=>?_;refine Jz 7 ?_;refine bz 1 rfl (ros Be s.A s.exprs) rfl (aPc ..) (Jz 4 ?_);refine Jr (Cu (i:=1) rfl rfl Sz rfl (gvt (rsg Ia (show([s]:List St)[0]?=some s from rfl)) rfl)) ?_;refine Jz 5 ?_;refine Bz (fun u g mz ρ Γ=>∃(k:Nat),ρ=[u 0,u 1,u 10,(11,nv k)]∧Γ=[g 1,g 0,g 2,glc]∧mz=s.exprs.length-k∧(k≤s.exprs.length)) ⟨⟨0,rfl,rfl,rfl,om⟩,sb⟩ ?_;rintro mz _ _ ⟨k,rfl,rfl,rfl,hk⟩;refine Jz 6 ?_;refine ax rfl ?_ ?_<;>intro c12;obtain⟨x,hx⟩:=bq s.exprs k om;refine Jz 11 ?_;refine aV Gw de 1 rfl hx (Cg 3 rfl (x.kids Be) (Ex.lax Be x) (Yo hx) (Jz 4 ?_));refine Jr (Cu (i:=2) rfl rfl Sz rfl (gvt (rsg Ia (show([s]:List St)[0]?=some s from rfl)) rfl)) ?_;refine Jz 3 ?_;refine Jqf (KC x (some ⟨blk s.A,ofs s.A+k*4,none⟩) (Mg hlow (av hx)) (Yq hfin (av hx))) (by show[]++(owns (x.kids Be)++(owns gl++[]))=[];rw[(Ex.lax Be x).owns];rfl) (ag (au 1 rfl) (ag (au 0 rfl) (ag (au 5 rfl) (af _)))) ?_;rintro _ _ ⟨rfl,rfl⟩;refine⟨rfl,?_⟩;refine Jz 12 ?_;refine Bp ⟨⟨k+1,rfl,rfl,rfl,om⟩,sb⟩;refine Jz 11 ?_;refine Da (Ck (Cr (Cq (bv results174 ?_))));exact⟨rfl,rfl⟩
theorem NY(e:Ex)(hlow:e.pure.low)(hfin:e.pure.fine)(ih:∀x∈e.args,∀P:OA,x.pure.low→x.pure.fine→Dz 218 [.pointer (some ⟨blk P,ofs P+0*4,none⟩), .func (.func 176) #[] #[]] [ros Be P [x],all (x.kids Be),glc] (fun v Γ'=>v=bt∧Γ'=[]))(P:OA):
    Dz 218 [.pointer (some ⟨blk P,ofs P+0*4,none⟩), .func (.func 176) #[] #[]] [ros Be P [e],all (e.kids Be),glc] (fun v Γ'=>v=bt∧Γ'=[]):=by
 obtain⟨hop,hal⟩:=Ru hlow;have hf:=Jk hfin;refine Ba func218 ntmps218 fun w0=>?_;refine Jz 10 ?_;refine JcV rfl rfl rfl (dn (first:=[]) (captured:=[]) rfl rfl rfl (kc.h 176 rfl)) (zP P e hf) rfl (ag (au 0 rfl) (ag (au 2 rfl) (af _))) (Jz 8 ?_);refine bz 1 rfl (ros Be e.A e.args) rfl (Ib e) (Jz 4 ?_);refine Jr (Cu (i:=1) rfl rfl Sz rfl (gvt (rsg Gw (show([e]:List Ex)[0]?=some e from rfl)) rfl)) ?_;refine Jz 5 ?_;refine Bz (fun s g mz ρ Γ=>∃(k:Nat),ρ=[s 0,s 1,s 14,(15,nv k)]∧Γ=[g 1,g 0,g 2,glc]∧mz=e.args.length-k∧(k≤e.args.length)) ⟨⟨0,rfl,rfl,rfl,om⟩,sb⟩ ?_;rintro mz _ _ ⟨k,rfl,rfl,rfl,hk⟩;refine Jz 6 ?_;refine ax rfl ?_ ?_<;>intro c16;obtain⟨x,hx⟩:=bq e.args k om;refine Jz 11 ?_;refine aV Gw de 1 rfl hx (Cg 3 rfl (x.kids Be) (Ex.lax Be x) (Hq hx) (Jz 4 ?_));refine Jr (Cu (i:=2) rfl rfl Sz rfl (gvt (rsg Gw (show([e]:List Ex)[0]?=some e from rfl)) rfl)) ?_;refine Jz 3 ?_;refine Jqf (ih x (av hx) (some ⟨blk e.A,ofs e.A+k*4,none⟩) (Gy hlow (av hx)) (Ey hfin (av hx))) (by show[]++(owns (x.kids Be)++(owns gl++[]))=[];rw[(Ex.lax Be x).owns];rfl) (ag (au 1 rfl) (ag (au 0 rfl) (ag (au 5 rfl) (af _)))) ?_;rintro _ _ ⟨rfl,rfl⟩;refine⟨rfl,?_⟩;refine Jz 12 ?_;refine Bp ⟨⟨k+1,rfl,rfl,rfl,om⟩,sb⟩;refine Jz 11 ?_;refine Da (Ck (Cr (Cq (bv results218 ?_))));exact⟨rfl,rfl⟩
theorem KD:∀(e:Ex) (P:OA),e.pure.low→e.pure.fine→Dz 218 [.pointer (some ⟨blk P,ofs P+0*4,none⟩), .func (.func 176) #[] #[]] [ros Be P [e],all (e.kids Be),glc] (fun v Γ'=>v=bt∧Γ'=[])
 |e,P,h1,h2=>NY e h1 h2 (fun x hx=>KD x) P
termination_by e=>SizeOf.sizeOf e
decreasing_by
 cases e with
 | mk op s n A q l=>
   have:=aQr (show x∈l from hx);simp only[Ex.mk.sizeOf_spec];omega
theorem aBu(P:OA)(s:St)(hle:s.exprs.length≤4)(hlow:Kz (Cv s.exprs))(hfin:Od (Cv s.exprs)):
    Dz 174 [.pointer (some ⟨blk P,ofs P+0*6,none⟩), .func (.func 176) #[] #[]] [ros Ca P [s],all (lsF Be s.A s.exprs),glc] (fun v Γ'=>v=bt∧Γ'=[]):=by
 refine Ba func174 ntmps174 fun w0=>?_;refine Jz 7 ?_;refine bz 1 rfl (ros Be s.A s.exprs) rfl (aPc ..) (Jz 4 ?_);refine Jr (Cu (i:=1) rfl rfl Sz rfl (gvt (rsg Ia (show([s]:List St)[0]?=some s from rfl)) rfl)) ?_;refine Jz 5 ?_;refine Bz (fun u g mz ρ Γ=>∃(k:Nat),ρ=[u 0,u 1,u 10,(11,nv k)]∧Γ=[g 1,g 0,g 2,glc]∧mz=s.exprs.length-k∧(k≤s.exprs.length)) ⟨⟨0,rfl,rfl,rfl,om⟩,sb⟩ ?_;rintro mz _ _ ⟨k,rfl,rfl,rfl,hk⟩;refine Jz 6 ?_;refine ax rfl ?_ ?_<;>intro c12;obtain⟨x,hx⟩:=bq s.exprs k om;refine Jz 11 ?_;refine aV Gw de 1 rfl hx (Cg 3 rfl (x.kids Be) (Ex.lax Be x) (Yo hx) (Jz 4 ?_));refine Jr (Cu (i:=2) rfl rfl Sz rfl (gvt (rsg Ia (show([s]:List St)[0]?=some s from rfl)) rfl)) ?_;refine Jz 3 ?_;refine Jqf (KD x (some ⟨blk s.A,ofs s.A+k*4,none⟩) (Mg hlow (av hx)) (Yq hfin (av hx))) (by show[]++(owns (x.kids Be)++(owns gl++[]))=[];rw[(Ex.lax Be x).owns];rfl) (ag (au 1 rfl) (ag (au 0 rfl) (ag (au 5 rfl) (af _)))) ?_;rintro _ _ ⟨rfl,rfl⟩;refine⟨rfl,?_⟩;refine Jz 12 ?_;refine Bp ⟨⟨k+1,rfl,rfl,rfl,om⟩,sb⟩;refine Jz 11 ?_;refine Da (Ck (Cr (Cq (bv results174 ?_))));exact⟨rfl,rfl⟩
def wG(l:List PE):Prop:=Od l∧∀e∈l,e.dep≤8
mutual
def PS.sdep:PS→Nat
 |⟨_,_,_,_,t,e⟩=>max (Cw t) (Cw e)+1
def Cw:List PS→Nat
 |[]=>0
 |s::r=>max (PS.sdep s) (Cw r)
end
theorem dZ:∀(l:List PS) (x:PS),Cw (l++[x])=max (Cw l) x.sdep
 |[],x=>by show max x.sdep 0=max 0 x.sdep;omega
 |e::r,x=>by show max e.sdep (Cw (r++[x]))=max (max e.sdep (Cw r)) x.sdep;rw[dZ r x];omega
theorem Yr:∀{l:List PS} {x:PS},x∈l→x.sdep≤Cw l
 | e::r,x,h=>by
   show x.sdep≤max e.sdep (Cw r);rcases aPi.1 h with rfl|h
   ·omega
   ·have:=Yr h;omega
theorem Ni{n:Nat}:∀{l:List PS},(∀s∈l,s.sdep≤n)→Cw l≤n
 |[],_=>aQb _
 | e::r,h=>by
   show max e.sdep (Cw r)≤n;have h1:=h e (aPc ..);have h2:=Ni (l:=r) fun s hs=>h s (aPb _ hs);omega
mutual
def PS.fine:PS→Prop
 |⟨k,s,h,es,t,e⟩=>((1≤k∧k≤10)∧((frm k).2.2.1≤es.length∧es.length≤(frm k).2.2.2.1)∧wG es)∧(((frm k).1=true→Oc s)∧((frm k).1=false→s=nE))∧(((frm k).2.1=true→Oc h)∧((frm k).2.1=false→h=nE))∧(((frm k).2.2.2.2.1=false→t=[])∧((frm k).2.2.2.2.2=false→e=[]))∧Fe t∧Fe e
def Fe:List PS→Prop
 |[]=>True
 |s::r=>PS.fine s∧Fe r
end
theorem eB:∀{l:List PS},Fe l→∀x∈l,x.fine
 |[],_,x,h=>by cases h
 | e::r,h,x,hx=>by
   rcases aPi.1 hx with rfl|hx
   ·exact h.1
   ·exact eB h.2 x hx
theorem Nj:∀{l:List PS},(∀x∈l,x.fine)→Fe l
 |[],_=>trivial
 |e::r,h=>⟨h e (aPc ..),Nj fun x hx=>h x (aPb _ hx)⟩
structure St.Fine(s:St):Prop where
 k1:1≤s.kind
 k2:s.kind≤10
 least:(frm s.kind).2.2.1≤s.exprs.length
 most:s.exprs.length≤(frm s.kind).2.2.2.1
 exprs:Od (Cv s.exprs)
 deps:∀x∈s.exprs,x.pure.dep≤8
 nm1:(frm s.kind).1=true→Oc s.name
 nm2:(frm s.kind).1=false→s.name=nE
 hd1:(frm s.kind).2.1=true→Oc s.hand
 hd2:(frm s.kind).2.1=false→s.hand=nE
 thn:(frm s.kind).2.2.2.2.1=false→s.thn=[]
 els:(frm s.kind).2.2.2.2.2=false→s.els=[]
theorem rZ{l:List St}(h:Am l=[]):l=[]:=by
 cases l with
 |nil=>rfl
 |cons a r=>cases h
theorem Wi{s:St}(h:s.pure.fine):s.Fine∧Fe (Am s.thn)∧Fe (Am s.els):=by
 rw[Ju]at h;obtain⟨⟨⟨h1,h2⟩,⟨h3,h4⟩,h5,h6⟩,⟨h7,h8⟩,⟨h9,h10⟩,⟨h11,h12⟩,h13,h14⟩:=h;rw[Bj,aPg]at h3 h4;exact⟨⟨h1,h2,h3,h4,h5,fun x hx=>h6 x.pure (by rw[Bj];exact aPx.2 ⟨x,hx,rfl⟩),h7,h8,h9,h10,fun h=>rZ (h11 h),fun h=>rZ (h12 h)⟩,h13,h14⟩
theorem Tu{l:List St}(h:Fe (Am l)){x:St}(hx:x∈l):x.pure.fine:=eB h x.pure (by rw[Ei];exact aPx.2 ⟨x,hx,rfl⟩)
section
variable{c:Ct}{np:Nat}
theorem ok1{e:PE}(h:e.fine∧e.dep≤8):wG [e]:=⟨⟨h.1,trivial⟩,fun x hx=>by rw[aPj.1 hx];exact h.2⟩
theorem ok2{a b:PE}(h:a.fine∧a.dep≤8)(h2:b.fine∧b.dep≤8):wG [a,b]:=⟨⟨h.1,h2.1,trivial⟩,fun x hx=>by
 rcases aPi.1 hx with rfl|hx
 ·exact h.2
 ·rw[aPj.1 hx];exact h2.2⟩
theorem okl{l:List PE}(h:∀e∈l,e.fine∧e.dep≤8):wG l:=⟨iV fun x hx=>(h x hx).1,fun x hx=>(h x hx).2⟩
theorem StE.fine(ok:c.Ok)(hnp:np≤2){d:Nat}{s:PS}(h:StE c np d s):s.fine∧s.sdep≤d+1:=by
 have hi:=ok.ints;have I {d:Nat} {e:PE} (h:Kv c np d e) (hd:d≤3):e.fine∧e.dep≤8:=⟨(h.fine ok hnp).1,by have:=(h.fine ok hnp).2;omega⟩
 have B {d:Nat} {e:PE} (h:Pn c np d e) (hd:d≤3):e.fine∧e.dep≤8:=⟨(h.fine ok hnp).1,by have:=(h.fine ok hnp).2;omega⟩
 have par {to h n:Nat} {ar:List Nat} (ha:c.ars[to]?=some ar) (hh:ar[h]?=some n):n≤2∧h<3∧to<3:=by
  have h1:=ok.each ar (av ha);have h2:=(aOz.1 hh).1;have h3:=(aOz.1 ha).1;have h4:=ok.some;exact⟨h1.2.2 n (av hh),by omega,by omega⟩
 have nn (p:Prop):(false=true→p):=fun h=>by cases h
 have nt (p:Prop):(true=false→p):=fun h=>by cases h
 induction h with
 |setB d e h=>exact⟨⟨⟨by decide,⟨aPl _,aPl _⟩,ok1 (B h om)⟩,⟨fun _=>vY,nt _⟩,⟨nn _,fun _=>rfl⟩,⟨fun _=>rfl,fun _=>rfl⟩,trivial,trivial⟩,show 1≤d+1 by omega⟩
 |setX d k e hk h=>exact⟨⟨⟨by decide,⟨aPl _,aPl _⟩,ok1 (I h om)⟩,⟨fun _=>vW om,nt _⟩,⟨nn _,fun _=>rfl⟩,⟨fun _=>rfl,fun _=>rfl⟩,trivial,trivial⟩,show 1≤d+1 by omega⟩
 |put d a b ht ha hb=>exact⟨⟨⟨by decide,⟨aPl _,aPl _⟩,ok2 (I ha om) (I hb om)⟩,⟨fun _=>Zl,nt _⟩,⟨nn _,fun _=>rfl⟩,⟨fun _=>rfl,fun _=>rfl⟩,trivial,trivial⟩,show 1≤d+1 by omega⟩
 |del d a ht ha=>exact⟨⟨⟨by decide,⟨aPl _,aPl _⟩,ok1 (I ha om)⟩,⟨fun _=>Zl,nt _⟩,⟨nn _,fun _=>rfl⟩,⟨fun _=>rfl,fun _=>rfl⟩,trivial,trivial⟩,show 1≤d+1 by omega⟩
 | ife d e t l h ht hl iht ihl=>
   refine⟨⟨⟨by decide,⟨aPl _,aPl _⟩,ok1 (B h om)⟩,⟨nn _,fun _=>rfl⟩,⟨nn _,fun _=>rfl⟩,⟨nt _,nt _⟩,Nj fun x hx=>(iht x hx).1,Nj fun x hx=>(ihl x hx).1⟩,?_⟩;have h1:=Ni fun x hx=>(iht x hx).2;have h2:=Ni fun x hx=>(ihl x hx).2;show max (Cw t) (Cw l)+1≤_;omega
 | whl d e t h ht iht=>
   refine⟨⟨⟨by decide,⟨aPl _,aPl _⟩,ok1 (B h om)⟩,⟨nn _,fun _=>rfl⟩,⟨nn _,fun _=>rfl⟩,⟨nt _,fun _=>rfl⟩,Nj fun x hx=>(iht x hx).1,trivial⟩,?_⟩;have h1:=Ni fun x hx=>(iht x hx).2;show max (Cw t) 0+1≤_;omega
 | send d to h ar l ha hh hl=>
   obtain⟨p1,p2,p3⟩:=par ha hh;exact⟨⟨⟨by decide,⟨aQb _,by show l.length≤4;omega⟩,okl fun x hx=>I (hl x hx) om⟩,⟨fun _=>vX p3,nt _⟩,⟨fun _=>FJ p2,nt _⟩,⟨fun _=>rfl,fun _=>rfl⟩,trivial,trivial⟩,show 1≤d+1 by omega⟩
 | after d h ar e l ha hh he hl=>
   obtain⟨p1,p2,p3⟩:=par ha hh;refine⟨⟨⟨by decide,⟨by show 1≤l.length+1;omega,by show l.length+1≤5;omega⟩,okl fun x hx=>?_⟩,⟨nn _,fun _=>rfl⟩,⟨fun _=>FJ p2,nt _⟩,⟨fun _=>rfl,fun _=>rfl⟩,trivial,trivial⟩,show 1≤d+1 by omega⟩;rcases aPi.1 hx with rfl|hx
   ·exact I he om
   ·exact I (hl x hx) om
 | store d a b l ha hb hl ihl=>
   refine⟨⟨⟨by decide,⟨aPl _,aPl _⟩,ok2 (I ha om) (I hb om)⟩,⟨nn _,fun _=>rfl⟩,⟨nn _,fun _=>rfl⟩,⟨fun _=>rfl,nt _⟩,trivial,Nj fun x hx=>(ihl x hx).1⟩,?_⟩;have h1:=Ni fun x hx=>(ihl x hx).2;show max 0 (Cw l)+1≤_;omega
 | fetch d k e l hk h hl ihl=>
   refine⟨⟨⟨by decide,⟨aPl _,aPl _⟩,ok1 (I h om)⟩,⟨fun _=>vW om,nt _⟩,⟨nn _,fun _=>rfl⟩,⟨fun _=>rfl,nt _⟩,trivial,Nj fun x hx=>(ihl x hx).1⟩,?_⟩;have h1:=Ni fun x hx=>(ihl x hx).2;show max 0 (Cw l)+1≤_;omega
 |stop d=>exact⟨⟨⟨by decide,⟨aPl _,aPl _⟩,trivial,fun x hx=>by cases hx⟩,⟨nn _,fun _=>rfl⟩,⟨nn _,fun _=>rfl⟩,⟨fun _=>rfl,fun _=>rfl⟩,trivial,trivial⟩,show 1≤d+1 by omega⟩
end
theorem NZ(l:List St)(ih:∀x∈l,(∀(A:OA) (q:Nat),x.thn.length≤12→De (Am x.thn)→Bl (Am x.thn)≤100→Dz 168 [vs A x.thn q] [all (lsG Be Ca A x.thn)] (fun v Γ'=>v=nv (Bl (Am x.thn))∧Γ'=[]))∧(∀(A:OA) (q:Nat),x.els.length≤12→De (Am x.els)→Bl (Am x.els)≤100→Dz 168 [vs A x.els q] [all (lsG Be Ca A x.els)] (fun v Γ'=>v=nv (Bl (Am x.els))∧Γ'=[])))(A:OA)(q:Nat)(hl:l.length≤12)(hlow:De (Am l))(hb:Bl (Am l)≤100):
    Dz 168 [vs A l q] [all (lsG Be Ca A l)] (fun v Γ'=>v=nv (Bl (Am l))∧Γ'=[]):=by
 refine Ba func168 ntmps168 fun w0=>?_;refine Jz 14 ?_;refine bz 0 rfl (ros Ca A l) rfl (aPc ..) (Jz 7 ?_);refine Jh (fun s g mz ρ Γ=>∃(m:Nat) (k:Nat),ρ=[s 0,(3,nv m),s 8,(9,nv k)]∧Γ=[g 0,g 1]∧mz=l.length-k∧(k≤l.length)∧(m+k=l.length+Bl (Am (l.take k)))) ⟨⟨l.length,0,rfl,rfl,rfl,om,rfl⟩,sb⟩ ?_;rintro mz _ _ ⟨m,k,rfl,rfl,rfl,hk,hm⟩;have hmb:Bl (Am (l.take k))≤100:=by
  have h1:Am l=Am (l.take k)++Am (l.drop k):=by rw[Ei,Ei,Ei,←aPn,aRa]
  rw[h1,Nc]at hb;omega
 refine Jz 6 ?_;refine ax rfl ?_ ?_<;>intro c10;obtain⟨x,hx⟩:=bq l k om;obtain⟨hxk,⟨hxe,hxl⟩,⟨hxt,hxtl⟩,hxn,hxnl⟩:=Ki (Jj hlow (av hx));have hxm:x.pure∈Am l:=by rw[Ei];exact aPx.2 ⟨x,av hx,rfl⟩
 have htk:Am (l.take (k+1))=Am (l.take k)++[x.pure]:=by rw[Cy hx,Ei,aPn,←Ei];rfl
 have hxc:PS.cnt x.pure=1+Bl (Am x.thn)+Bl (Am x.els):=by rw[Ju x];rfl
 have hxc2:=kD hxm;have hxa:Bl (Am x.thn)≤100:=om;have hxb:Bl (Am x.els)≤100:=om;have hcx:Bl (Am (l.take (k+1)))=Bl (Am (l.take k))+PS.cnt x.pure:=by rw[htk,Nc];show _+(PS.cnt x.pure+0)=_;omega
 refine Jz 10 ?_;refine Cg 1 rfl (lsG Be Ca x.Ae x.els) (Dj _ _ _ _) (fun c hc=>Lf hx c (Gz x c hc)) (Cg 2 rfl (lsG Be Ca x.At x.thn) (Dj _ _ _ _) (fun c hc=>Lf hx c (Ig x c hc)) (Ou [ros Ca A l] [⟨0,[],0⟩,⟨1,[],0⟩,⟨2,[],0⟩,⟨7,[],0⟩,⟨8,[],0⟩,⟨3,[],1⟩,⟨4,[],0⟩,⟨5,[],0⟩,⟨6,[],4⟩,⟨9,[],1⟩,⟨10,[],0⟩,⟨11,[],0⟩,⟨12,[6],4⟩,⟨13,[6,12],0⟩,⟨14,[6,12],0⟩,⟨15,[6,12],0⟩] mixed.h kr (ag (au 2 rfl) (af _)) (Jz 8 ?_)));refine Dy rfl rfl rfl rfl rfl .fc ((ih x (av hx)).1 x.At x.qt hxt hxtl hxa) (by show owns (lsG Be Ca x.At x.thn)++[]=[];rw[(Dj Be Ca x.At x.thn).owns];rfl) (ag (au 0 rfl) (af _)) ?_;rintro _ _ ⟨rfl,rfl⟩;refine⟨rfl,?_⟩;refine Jz 3 ?_;refine Dy rfl rfl rfl rfl rfl .fc ((ih x (av hx)).2 x.Ae x.qe hxn hxnl hxb) (by show owns (lsG Be Ca x.Ae x.els)++[]=[];rw[(Dj Be Ca x.Ae x.els).owns];rfl) (ag (au 1 rfl) (af _)) ?_;rintro _ _ ⟨rfl,rfl⟩;refine⟨rfl,?_⟩;refine di rfl (Gu (a:=(Bl (Am x.thn))) (b:=(Bl (Am x.els))) rfl rfl rfl om) ?_;refine di rfl (Gu (a:=m) (b:=((Bl (Am x.thn))+(Bl (Am x.els)))) rfl rfl rfl om) ?_;refine Jz 9 ?_;refine Bp ⟨⟨(m+(Bl (Am x.thn)+Bl (Am x.els))),k+1,rfl,rfl,rfl,om,(by rw[hcx,hxc];omega)⟩,sb⟩;refine Jz 12 ?_;refine Cr (Cq (bv results168 ?_));have h2:m=Bl (Am l):=by rw[show k=l.length by omega,List.take_length]at hm;omega
 rw[h2];exact⟨rfl,rfl⟩
theorem wH:∀l:List St,∀(A:OA) (q:Nat),l.length≤12→De (Am l)→Bl (Am l)≤100→Dz 168 [vs A l q] [all (lsG Be Ca A l)] (fun v Γ'=>v=nv (Bl (Am l))∧Γ'=[])
 |l,A,q,h1,h2,h3=>NZ l (fun x hx=>⟨wH x.thn,wH x.els⟩) A q h1 h2 h3
termination_by l=>SizeOf.sizeOf l
decreasing_by
 all_goals
  have h:=aQr hx;have:SizeOf.sizeOf x.thn<SizeOf.sizeOf x∧SizeOf.sizeOf x.els<SizeOf.sizeOf x:=by cases x;simp only[St.mk.sizeOf_spec];omega
  omega
theorem FT(l:List St)(ih:∀x∈l,(∀(A:OA) (q:Nat),x.thn.length≤12→De (Am x.thn)→Cw (Am x.thn)≤100→Dz 169 [vs A x.thn q] [all (lsG Be Ca A x.thn)] (fun v Γ'=>v=nv (Cw (Am x.thn))∧Γ'=[]))∧(∀(A:OA) (q:Nat),x.els.length≤12→De (Am x.els)→Cw (Am x.els)≤100→Dz 169 [vs A x.els q] [all (lsG Be Ca A x.els)] (fun v Γ'=>v=nv (Cw (Am x.els))∧Γ'=[])))(A:OA)(q:Nat)(hl:l.length≤12)(hlow:De (Am l))(hb:Cw (Am l)≤100):
    Dz 169 [vs A l q] [all (lsG Be Ca A l)] (fun v Γ'=>v=nv (Cw (Am l))∧Γ'=[]):=by
 refine Ba func169 ntmps169 fun w0=>?_;refine Jz 13 ?_;refine ax rfl ?_ ?_<;>intro c7;refine Jz 7 ?_;refine Cq (bv results169 ?_);have h0:l=[]:=aRu om;subst h0;exact⟨rfl,rfl⟩;refine Jz 9 ?_;refine bz 0 rfl (ros Ca A l) rfl (aPc ..) (Jz 7 ?_);refine Jh (fun s g mz ρ Γ=>∃(m:Nat) (k:Nat),ρ=[s 0,(3,nv m),s 9,(10,nv k)]∧Γ=[g 0,g 1]∧mz=l.length-k∧(k≤l.length)∧(Cw (Am (l.take k))=if k=0 then 0 else m+1)∧(k=0→m=0)∧(m≤100)) ⟨⟨0,0,rfl,rfl,rfl,om,rfl,(fun _=>rfl),om⟩,sb⟩ ?_;rintro mz _ _ ⟨m,k,rfl,rfl,rfl,hk,hm,hm0,hmb⟩;refine Jz 6 ?_;refine ax rfl ?_ ?_<;>intro c11;obtain⟨x,hx⟩:=bq l k om;obtain⟨hxk,⟨hxe,hxl⟩,⟨hxt,hxtl⟩,hxn,hxnl⟩:=Ki (Jj hlow (av hx));have hxm:x.pure∈Am l:=by rw[Ei];exact aPx.2 ⟨x,av hx,rfl⟩
 have htk:Am (l.take (k+1))=Am (l.take k)++[x.pure]:=by rw[Cy hx,Ei,aPn,←Ei];rfl
 have hxc:PS.sdep x.pure=max (Cw (Am x.thn)) (Cw (Am x.els))+1:=by rw[Ju x];rfl
 have hxc2:=Yr hxm;have hxa:Cw (Am x.thn)≤100:=om;have hxb:Cw (Am x.els)≤100:=om;have hcx:Cw (Am (l.take (k+1)))=max (Cw (Am (l.take k))) (PS.sdep x.pure):=by rw[htk,dZ]
 refine Jz 10 ?_;refine Cg 1 rfl (lsG Be Ca x.Ae x.els) (Dj _ _ _ _) (fun c hc=>Lf hx c (Gz x c hc)) (Cg 2 rfl (lsG Be Ca x.At x.thn) (Dj _ _ _ _) (fun c hc=>Lf hx c (Ig x c hc)) (Ou [ros Ca A l] [⟨0,[],0⟩,⟨1,[],0⟩,⟨2,[],0⟩,⟨7,[],0⟩,⟨8,[],0⟩,⟨3,[],1⟩,⟨4,[],0⟩,⟨5,[],0⟩,⟨6,[],4⟩,⟨9,[],1⟩,⟨10,[],0⟩,⟨11,[],0⟩,⟨12,[6],4⟩,⟨13,[6,12],0⟩,⟨14,[6,12],0⟩] mixed.h kr (ag (au 2 rfl) (af _)) (Jz 8 ?_)));refine Dy rfl rfl rfl rfl rfl .fc ((ih x (av hx)).1 x.At x.qt hxt hxtl hxa) (by show owns (lsG Be Ca x.At x.thn)++[]=[];rw[(Dj Be Ca x.At x.thn).owns];rfl) (ag (au 0 rfl) (af _)) ?_;rintro _ _ ⟨rfl,rfl⟩;refine⟨rfl,?_⟩;refine Jz 3 ?_;refine Dy rfl rfl rfl rfl rfl .fc ((ih x (av hx)).2 x.Ae x.qe hxn hxnl hxb) (by show owns (lsG Be Ca x.Ae x.els)++[]=[];rw[(Dj Be Ca x.Ae x.els).owns];rfl) (ag (au 1 rfl) (af _)) ?_;rintro _ _ ⟨rfl,rfl⟩;refine⟨rfl,?_⟩;refine di rfl (Cn (v':=nv (max m (max (Cw (Am x.thn)) (Cw (Am x.els))))) (aPe iv om) (Vk rfl rfl rfl rfl)) ?_;refine Jz 9 ?_;refine Bp ⟨⟨(max m (max (Cw (Am x.thn)) (Cw (Am x.els)))),k+1,rfl,rfl,rfl,om,(by rw[aPf om,hcx,hm,hxc];split<;>omega),(fun h=>by omega),om⟩,sb⟩;refine Jz 13 ?_;refine Cr (Cq (bv results169 ?_));have h2:Cw (Am l)=m+1:=by rw[show k=l.length by omega,List.take_length,aPf om]at hm;exact hm
 rw[h2];exact⟨rfl,rfl⟩
theorem nX:∀l:List St,∀(A:OA) (q:Nat),l.length≤12→De (Am l)→Cw (Am l)≤100→Dz 169 [vs A l q] [all (lsG Be Ca A l)] (fun v Γ'=>v=nv (Cw (Am l))∧Γ'=[])
 |l,A,q,h1,h2,h3=>FT l (fun x hx=>⟨nX x.thn,nX x.els⟩) A q h1 h2 h3
termination_by l=>SizeOf.sizeOf l
decreasing_by
 all_goals
  have h:=aQr hx;have:SizeOf.sizeOf x.thn<SizeOf.sizeOf x∧SizeOf.sizeOf x.els<SizeOf.sizeOf x:=by cases x;simp only[St.mk.sizeOf_spec];omega
  omega
theorem FU(P:OA)(s:St)(hf:s.Fine)(hle:s.exprs.length≤4)(hlow:Kz (Cv s.exprs)):
    Dz 170 [.pointer (some ⟨blk P,ofs P+0*6,none⟩)] [ros Ca P [s],all (lsF Be s.A s.exprs),glc] (fun v Γ'=>v=bt∧Γ'=[]):=by
 refine Ba func170 ntmps170 fun w0=>?_;refine Jz 7 ?_;refine bz 1 rfl (ros Be s.A s.exprs) rfl (aPc ..) (Jz 4 ?_);refine Jr (Cu (i:=1) rfl rfl Sz rfl (gvt (rsg Ia (show([s]:List St)[0]?=some s from rfl)) rfl)) ?_;refine Jz 5 ?_;refine Bz (fun u g mz ρ Γ=>∃(k:Nat),ρ=[u 8,u 9,(10,nv k)]∧Γ=[g 0,g 2]∧mz=s.exprs.length-k∧(k≤s.exprs.length)) ⟨⟨0,rfl,rfl,rfl,om⟩,sb⟩ ?_;rintro mz _ _ ⟨k,rfl,rfl,rfl,hk⟩;refine Jz 6 ?_;refine ax rfl ?_ ?_<;>intro c11;obtain⟨x,hx⟩:=bq s.exprs k om;have hxd:=hf.deps x (av hx);refine Jz 8 ?_;refine ay fun b4=>?_;refine Jz 4 ?_;refine Cg 2 rfl (x.kids Be) (Ex.lax Be x) (Yo hx) (Jz 2 ?_);refine Jqf (KA x (Mg hlow (av hx)) (aRk hxd de)) (by show owns (x.kids Be)++[]=[];rw[(Ex.lax Be x).owns];rfl) (ag (au 0 rfl) (af _)) ?_;rintro _ _ ⟨rfl,rfl⟩;refine⟨rfl,?_⟩;refine Jr (Cn (v':=bf) (aPe Value.bool (aQk om)) (Rd.gtr rfl rfl rfl)) ?_;refine Jz 11 ?_;refine Bp ⟨⟨k+1,rfl,rfl,rfl,om⟩,sb⟩;refine Jz 11 ?_;refine Cr (Cq (bv results170 ?_));exact⟨rfl,rfl⟩
theorem FV(P:OA)(s:St)(hf:s.Fine)(hle:s.exprs.length≤4)(hlow:Kz (Cv s.exprs)):
    Dz 119 [.pointer (some ⟨blk P,ofs P+0*6,none⟩)] [ros Ca P [s],all (lsF Be s.A s.exprs),glc] (fun v Γ'=>v=bt∧Γ'=[]):=by
 refine Ba func119 ntmps119 fun w0=>?_;refine Jz 10 ?_;refine Jr (Cu (i:=0) rfl rfl aKu rfl (gvt (f:=0) (rsg Ia (show([s]:List St)[0]?=some s from rfl)) rfl)) ?_;refine Jvf (JZ hf.k1 hf.k2) rfl (Mm 2 rfl) ?_;refine Jz 3 ?_;refine ay fun b3=>?_;refine Jz 7 ?_;refine Oa [0] 34 (false) ?_ ?_;refine Jz 2 ?_;refine JgB ?_ ?_<;>intro g15;refine Jz 3 ?_;refine Jr (Cu (i:=1) rfl rfl c9 rfl (gvt (rsg Ia (show([s]:List St)[0]?=some s from rfl)) rfl)) ?_;refine Jvf (Kh (hf.nm1 (by simpa using g15))) rfl (Mm 3 rfl) ?_;refine Jz 5 ?_;refine JgB ?_ ?_<;>intro g26;refine Jz 3 ?_;refine Jr (Cu (i:=1) rfl rfl c9 rfl (gvt (rsg Ia (show([s]:List St)[0]?=some s from rfl)) rfl)) ?_;refine Jvf (Kh (hf.hd1 (by simpa using g26))) rfl (Mm 3 rfl) ?_;refine Jz 5 ?_;refine Gb rfl rfl;refine Jz 10 ?_;refine Gb rfl rfl;refine Jz 10 ?_;refine JgB ?_ ?_<;>intro g26;refine Jz 3 ?_;refine Jr (Cu (i:=1) rfl rfl c9 rfl (gvt (rsg Ia (show([s]:List St)[0]?=some s from rfl)) rfl)) ?_;refine Jvf (Kh (hf.hd1 (by simpa using g26))) rfl (Mm 3 rfl) ?_;refine Jz 5 ?_;refine Gb rfl rfl;refine Jz 10 ?_;refine Gb rfl rfl;refine Jz 6 ?_;refine Jqf (aBt P s hle hlow hf.exprs) (by show[]++(owns (lsF Be s.A s.exprs)++(owns gl++[]))=[];rw[(Mf Be s.A s.exprs).owns];rfl) (ag (au 1 rfl) (ag (au 2 rfl) (ag (au 3 rfl) (af _)))) ?_;rintro _ _ ⟨rfl,rfl⟩;refine⟨rfl,?_⟩;refine Jz 4 ?_;refine Da (Ck (Cr (Cq (bv results119 ?_))));exact⟨rfl,rfl⟩
theorem zQ(P:OA)(s:St)(hf:s.Fine)(hle:s.exprs.length≤4)(hlow:Kz (Cv s.exprs)):
    Dz 122 [.pointer (some ⟨blk P,ofs P+0*6,none⟩)] [ros Ca P [s],all (lsF Be s.A s.exprs),glc] (fun v Γ'=>v=bt∧Γ'=[]):=by
 refine Ba func122 ntmps122 fun w0=>?_;refine Jz 10 ?_;refine Jr (Cu (i:=0) rfl rfl aKu rfl (gvt (f:=0) (rsg Ia (show([s]:List St)[0]?=some s from rfl)) rfl)) ?_;refine Jvf (JZ hf.k1 hf.k2) rfl (Mm 2 rfl) ?_;refine Jz 3 ?_;refine ay fun b3=>?_;refine Jz 10 ?_;refine Jr (Cu (i:=1) rfl rfl Sz rfl (gvt (rsg Ia (show([s]:List St)[0]?=some s from rfl)) rfl)) ?_;refine Jz 19 ?_;refine Jr (Cn (v':=bf) (aPe Value.bool (aQk (by have:=hf.least;omega))) (Rd.lss rfl rfl rfl)) ?_;refine Jz 8 ?_;refine Jr (Cn (v':=bf) (aPe Value.bool (aQk (by have:=hf.most;omega))) (Rd.gtr rfl rfl rfl)) ?_;refine Jz 7 ?_;refine Oa [0,3] 30 (false) ?_ ?_;refine Jz 3 ?_;refine JgB ?_ ?_<;>intro g34;refine Jz 3 ?_;refine Jr (Cu (i:=1) rfl rfl c9 rfl (gvt (rsg Ia (show([s]:List St)[0]?=some s from rfl)) rfl)) ?_;refine Jr (Cn (v':=bf) (aPe Value.bool (aQk (fun h=>h (hf.nm2 (by simpa using g34))))) (dV rfl rfl rfl)) ?_;refine Jz 4 ?_;refine Gb rfl rfl;refine Jz 9 ?_;refine Gb rfl rfl;refine Jz 2 ?_;refine Oa [0,3] 30 (false) ?_ ?_;refine Jz 3 ?_;refine JgB ?_ ?_<;>intro g44;refine Jz 3 ?_;refine Jr (Cu (i:=1) rfl rfl c9 rfl (gvt (rsg Ia (show([s]:List St)[0]?=some s from rfl)) rfl)) ?_;refine Jr (Cn (v':=bf) (aPe Value.bool (aQk (fun h=>h (hf.hd2 (by simpa using g44))))) (dV rfl rfl rfl)) ?_;refine Jz 4 ?_;refine Gb rfl rfl;refine Jz 9 ?_;refine Gb rfl rfl;refine Jz 4 ?_;refine Oa [0,3] 51 (false) ?_ ?_;refine Jz 3 ?_;refine JgB ?_ ?_<;>intro g55;refine Jz 3 ?_;refine Jr (Cu (i:=1) rfl rfl dN rfl (gvt (rsg Ia (show([s]:List St)[0]?=some s from rfl)) rfl)) ?_;refine Jz 1 ?_;refine Jr (Cn (v':=bf) (aPe Value.bool (aQk (by rw[hf.thn (by simpa using g55)];decide))) (Rd.gtr rfl rfl rfl)) ?_;refine Jz 4 ?_;refine Gb rfl rfl;refine Jz 10 ?_;refine Gb rfl rfl;refine Jz 2 ?_;refine Oa [0,3] 51 (false) ?_ ?_;refine Jz 3 ?_;refine JgB ?_ ?_<;>intro g66;refine Jz 3 ?_;refine Jr (Cu (i:=1) rfl rfl dN rfl (gvt (rsg Ia (show([s]:List St)[0]?=some s from rfl)) rfl)) ?_;refine Jz 1 ?_;refine Jr (Cn (v':=bf) (aPe Value.bool (aQk (by rw[hf.els (by simpa using g66)];decide))) (Rd.gtr rfl rfl rfl)) ?_;refine Jz 4 ?_;refine Gb rfl rfl;refine Jz 10 ?_;refine Gb rfl rfl;refine Jz 7 ?_;refine Jqf (aBu P s hle hlow hf.exprs) (by show[]++(owns (lsF Be s.A s.exprs)++(owns gl++[]))=[];rw[(Mf Be s.A s.exprs).owns];rfl) (ag (au 1 rfl) (ag (au 2 rfl) (ag (au 3 rfl) (af _)))) ?_;rintro _ _ ⟨rfl,rfl⟩;refine⟨rfl,?_⟩;refine Jz 4 ?_;refine Da (Ck (Cr (Cq (bv results122 ?_))));exact⟨rfl,rfl⟩
theorem OB(l:List St)(ih:∀x∈l,(∀(A:OA) (q:Nat),x.thn.length≤12→De (Am x.thn)→Fe (Am x.thn)→Dz 118 [vs A x.thn q, .func (.func 170) #[] #[]] [all (lsG Be Ca A x.thn),glc] (fun v Γ'=>v=bt∧Γ'=[]))∧(∀(A:OA) (q:Nat),x.els.length≤12→De (Am x.els)→Fe (Am x.els)→Dz 118 [vs A x.els q, .func (.func 170) #[] #[]] [all (lsG Be Ca A x.els),glc] (fun v Γ'=>v=bt∧Γ'=[])))(A:OA)(q:Nat)(hl:l.length≤12)(hlow:De (Am l))(hfin:Fe (Am l)):
    Dz 118 [vs A l q, .func (.func 170) #[] #[]] [all (lsG Be Ca A l),glc] (fun v Γ'=>v=bt∧Γ'=[]):=by
 refine Ba func118 ntmps118 fun w0=>?_;refine Jz 7 ?_;refine bz 0 rfl (ros Ca A l) rfl (aPc ..) (Jz 7 ?_);refine Jh (fun s g mz ρ Γ=>∃(k:Nat),ρ=[s 0,s 1,s 8,(9,nv k)]∧Γ=[g 0,g 1,glc]∧mz=l.length-k∧(k≤l.length)) ⟨⟨0,rfl,rfl,rfl,om⟩,sb⟩ ?_;rintro mz _ _ ⟨k,rfl,rfl,rfl,hk⟩;refine Jz 6 ?_;refine ax rfl ?_ ?_<;>intro c10;obtain⟨x,hx⟩:=bq l k om;obtain⟨hxk,⟨hxe,hxl⟩,⟨hxt,hxtl⟩,hxn,hxnl⟩:=Ki (Jj hlow (av hx));have hxf:=Wi (Tu hfin (av hx));refine Jz 19 ?_;refine aV Ia de 0 rfl hx (Cg 2 rfl (lsG Be Ca x.Ae x.els) (Dj _ _ _ _) (fun c hc=>Lf hx c (Gz x c hc)) (Cg 3 rfl (lsG Be Ca x.At x.thn) (Dj _ _ _ _) (fun c hc=>Lf hx c (Ig x c hc)) (Cg 4 rfl (lsF Be x.A x.exprs) (Mf _ _ _) (fun c hc=>Lf hx c (Lg x c hc)) (Jz 3 ?_))));refine JcQ rfl rfl rfl (dn (first:=[]) (captured:=[]) rfl rfl rfl (kc.h 170 rfl)) (FU (some ⟨blk A,ofs A+k*6,none⟩) x hxf.1 hxe hxl) (by show[]++(owns (lsF Be x.A x.exprs)++(owns gl++[]))=[];rw[(Mf Be x.A x.exprs).owns];rfl) (ag (au 3 rfl) (ag (au 0 rfl) (ag (au 6 rfl) (af _)))) ?_;rintro _ _ ⟨rfl,rfl⟩;refine⟨rfl,?_⟩;refine Jz 7 ?_;refine Jqf ((ih x (av hx)).1 x.At x.qt hxt hxtl hxf.2.1) (by show owns (lsG Be Ca x.At x.thn)++(owns gl++[])=[];rw[(Dj Be Ca x.At x.thn).owns];rfl) (ag (au 1 rfl) (ag (au 6 rfl) (af _))) ?_;rintro _ _ ⟨rfl,rfl⟩;refine⟨rfl,?_⟩;refine Jz 8 ?_;refine Jqf ((ih x (av hx)).2 x.Ae x.qe hxn hxnl hxf.2.2) (by show owns (lsG Be Ca x.Ae x.els)++(owns gl++[])=[];rw[(Dj Be Ca x.Ae x.els).owns];rfl) (ag (au 2 rfl) (ag (au 6 rfl) (af _))) ?_;rintro _ _ ⟨rfl,rfl⟩;refine⟨rfl,?_⟩;refine Jz 13 ?_;refine Bp ⟨⟨k+1,rfl,rfl,rfl,om⟩,sb⟩;refine Jz 11 ?_;refine Ck (Cr (Cq (bv results118 ?_)));exact⟨rfl,rfl⟩
theorem wI:∀l:List St,∀(A:OA) (q:Nat),l.length≤12→De (Am l)→Fe (Am l)→Dz 118 [vs A l q, .func (.func 170) #[] #[]] [all (lsG Be Ca A l),glc] (fun v Γ'=>v=bt∧Γ'=[])
 |l,A,q,h1,h2,h3=>OB l (fun x hx=>⟨wI x.thn,wI x.els⟩) A q h1 h2 h3
termination_by l=>SizeOf.sizeOf l
decreasing_by
 all_goals
  have h:=aQr hx;have:SizeOf.sizeOf x.thn<SizeOf.sizeOf x∧SizeOf.sizeOf x.els<SizeOf.sizeOf x:=by cases x;simp only[St.mk.sizeOf_spec];omega
  omega
theorem OC(l:List St)(ih:∀x∈l,(∀(A:OA) (q:Nat),x.thn.length≤12→De (Am x.thn)→Fe (Am x.thn)→Dz 118 [vs A x.thn q, .func (.func 119) #[] #[]] [all (lsG Be Ca A x.thn),glc] (fun v Γ'=>v=bt∧Γ'=[]))∧(∀(A:OA) (q:Nat),x.els.length≤12→De (Am x.els)→Fe (Am x.els)→Dz 118 [vs A x.els q, .func (.func 119) #[] #[]] [all (lsG Be Ca A x.els),glc] (fun v Γ'=>v=bt∧Γ'=[])))(A:OA)(q:Nat)(hl:l.length≤12)(hlow:De (Am l))(hfin:Fe (Am l)):
    Dz 118 [vs A l q, .func (.func 119) #[] #[]] [all (lsG Be Ca A l),glc] (fun v Γ'=>v=bt∧Γ'=[]):=by
 refine Ba func118 ntmps118 fun w0=>?_;refine Jz 7 ?_;refine bz 0 rfl (ros Ca A l) rfl (aPc ..) (Jz 7 ?_);refine Jh (fun s g mz ρ Γ=>∃(k:Nat),ρ=[s 0,s 1,s 8,(9,nv k)]∧Γ=[g 0,g 1,glc]∧mz=l.length-k∧(k≤l.length)) ⟨⟨0,rfl,rfl,rfl,om⟩,sb⟩ ?_;rintro mz _ _ ⟨k,rfl,rfl,rfl,hk⟩;refine Jz 6 ?_;refine ax rfl ?_ ?_<;>intro c10;obtain⟨x,hx⟩:=bq l k om;obtain⟨hxk,⟨hxe,hxl⟩,⟨hxt,hxtl⟩,hxn,hxnl⟩:=Ki (Jj hlow (av hx));have hxf:=Wi (Tu hfin (av hx));refine Jz 19 ?_;refine aV Ia de 0 rfl hx (Cg 2 rfl (lsG Be Ca x.Ae x.els) (Dj _ _ _ _) (fun c hc=>Lf hx c (Gz x c hc)) (Cg 3 rfl (lsG Be Ca x.At x.thn) (Dj _ _ _ _) (fun c hc=>Lf hx c (Ig x c hc)) (Cg 4 rfl (lsF Be x.A x.exprs) (Mf _ _ _) (fun c hc=>Lf hx c (Lg x c hc)) (Jz 3 ?_))));refine JcQ rfl rfl rfl (dn (first:=[]) (captured:=[]) rfl rfl rfl (kc.h 119 rfl)) (FV (some ⟨blk A,ofs A+k*6,none⟩) x hxf.1 hxe hxl) (by show[]++(owns (lsF Be x.A x.exprs)++(owns gl++[]))=[];rw[(Mf Be x.A x.exprs).owns];rfl) (ag (au 3 rfl) (ag (au 0 rfl) (ag (au 6 rfl) (af _)))) ?_;rintro _ _ ⟨rfl,rfl⟩;refine⟨rfl,?_⟩;refine Jz 7 ?_;refine Jqf ((ih x (av hx)).1 x.At x.qt hxt hxtl hxf.2.1) (by show owns (lsG Be Ca x.At x.thn)++(owns gl++[])=[];rw[(Dj Be Ca x.At x.thn).owns];rfl) (ag (au 1 rfl) (ag (au 6 rfl) (af _))) ?_;rintro _ _ ⟨rfl,rfl⟩;refine⟨rfl,?_⟩;refine Jz 8 ?_;refine Jqf ((ih x (av hx)).2 x.Ae x.qe hxn hxnl hxf.2.2) (by show owns (lsG Be Ca x.Ae x.els)++(owns gl++[])=[];rw[(Dj Be Ca x.Ae x.els).owns];rfl) (ag (au 2 rfl) (ag (au 6 rfl) (af _))) ?_;rintro _ _ ⟨rfl,rfl⟩;refine⟨rfl,?_⟩;refine Jz 13 ?_;refine Bp ⟨⟨k+1,rfl,rfl,rfl,om⟩,sb⟩;refine Jz 11 ?_;refine Ck (Cr (Cq (bv results118 ?_)));exact⟨rfl,rfl⟩
theorem wJ:∀l:List St,∀(A:OA) (q:Nat),l.length≤12→De (Am l)→Fe (Am l)→Dz 118 [vs A l q, .func (.func 119) #[] #[]] [all (lsG Be Ca A l),glc] (fun v Γ'=>v=bt∧Γ'=[])
 |l,A,q,h1,h2,h3=>OC l (fun x hx=>⟨wJ x.thn,wJ x.els⟩) A q h1 h2 h3
termination_by l=>SizeOf.sizeOf l
decreasing_by
 all_goals
  have h:=aQr hx;have:SizeOf.sizeOf x.thn<SizeOf.sizeOf x∧SizeOf.sizeOf x.els<SizeOf.sizeOf x:=by cases x;simp only[St.mk.sizeOf_spec];omega
  omega
theorem OD(l:List St)(ih:∀x∈l,(∀(A:OA) (q:Nat),x.thn.length≤12→De (Am x.thn)→Fe (Am x.thn)→Dz 118 [vs A x.thn q, .func (.func 122) #[] #[]] [all (lsG Be Ca A x.thn),glc] (fun v Γ'=>v=bt∧Γ'=[]))∧(∀(A:OA) (q:Nat),x.els.length≤12→De (Am x.els)→Fe (Am x.els)→Dz 118 [vs A x.els q, .func (.func 122) #[] #[]] [all (lsG Be Ca A x.els),glc] (fun v Γ'=>v=bt∧Γ'=[])))(A:OA)(q:Nat)(hl:l.length≤12)(hlow:De (Am l))(hfin:Fe (Am l)):
    Dz 118 [vs A l q, .func (.func 122) #[] #[]] [all (lsG Be Ca A l),glc] (fun v Γ'=>v=bt∧Γ'=[]):=by
 refine Ba func118 ntmps118 fun w0=>?_;refine Jz 7 ?_;refine bz 0 rfl (ros Ca A l) rfl (aPc ..) (Jz 7 ?_);refine Jh (fun s g mz ρ Γ=>∃(k:Nat),ρ=[s 0,s 1,s 8,(9,nv k)]∧Γ=[g 0,g 1,glc]∧mz=l.length-k∧(k≤l.length)) ⟨⟨0,rfl,rfl,rfl,om⟩,sb⟩ ?_;rintro mz _ _ ⟨k,rfl,rfl,rfl,hk⟩;refine Jz 6 ?_;refine ax rfl ?_ ?_<;>intro c10;obtain⟨x,hx⟩:=bq l k om;obtain⟨hxk,⟨hxe,hxl⟩,⟨hxt,hxtl⟩,hxn,hxnl⟩:=Ki (Jj hlow (av hx));have hxf:=Wi (Tu hfin (av hx));refine Jz 19 ?_;refine aV Ia de 0 rfl hx (Cg 2 rfl (lsG Be Ca x.Ae x.els) (Dj _ _ _ _) (fun c hc=>Lf hx c (Gz x c hc)) (Cg 3 rfl (lsG Be Ca x.At x.thn) (Dj _ _ _ _) (fun c hc=>Lf hx c (Ig x c hc)) (Cg 4 rfl (lsF Be x.A x.exprs) (Mf _ _ _) (fun c hc=>Lf hx c (Lg x c hc)) (Jz 3 ?_))));refine JcQ rfl rfl rfl (dn (first:=[]) (captured:=[]) rfl rfl rfl (kc.h 122 rfl)) (zQ (some ⟨blk A,ofs A+k*6,none⟩) x hxf.1 hxe hxl) (by show[]++(owns (lsF Be x.A x.exprs)++(owns gl++[]))=[];rw[(Mf Be x.A x.exprs).owns];rfl) (ag (au 3 rfl) (ag (au 0 rfl) (ag (au 6 rfl) (af _)))) ?_;rintro _ _ ⟨rfl,rfl⟩;refine⟨rfl,?_⟩;refine Jz 7 ?_;refine Jqf ((ih x (av hx)).1 x.At x.qt hxt hxtl hxf.2.1) (by show owns (lsG Be Ca x.At x.thn)++(owns gl++[])=[];rw[(Dj Be Ca x.At x.thn).owns];rfl) (ag (au 1 rfl) (ag (au 6 rfl) (af _))) ?_;rintro _ _ ⟨rfl,rfl⟩;refine⟨rfl,?_⟩;refine Jz 8 ?_;refine Jqf ((ih x (av hx)).2 x.Ae x.qe hxn hxnl hxf.2.2) (by show owns (lsG Be Ca x.Ae x.els)++(owns gl++[])=[];rw[(Dj Be Ca x.Ae x.els).owns];rfl) (ag (au 2 rfl) (ag (au 6 rfl) (af _))) ?_;rintro _ _ ⟨rfl,rfl⟩;refine⟨rfl,?_⟩;refine Jz 13 ?_;refine Bp ⟨⟨k+1,rfl,rfl,rfl,om⟩,sb⟩;refine Jz 11 ?_;refine Ck (Cr (Cq (bv results118 ?_)));exact⟨rfl,rfl⟩
theorem wK:∀l:List St,∀(A:OA) (q:Nat),l.length≤12→De (Am l)→Fe (Am l)→Dz 118 [vs A l q, .func (.func 122) #[] #[]] [all (lsG Be Ca A l),glc] (fun v Γ'=>v=bt∧Γ'=[])
 |l,A,q,h1,h2,h3=>OD l (fun x hx=>⟨wK x.thn,wK x.els⟩) A q h1 h2 h3
termination_by l=>SizeOf.sizeOf l
decreasing_by
 all_goals
  have h:=aQr hx;have:SizeOf.sizeOf x.thn<SizeOf.sizeOf x∧SizeOf.sizeOf x.els<SizeOf.sizeOf x:=by cases x;simp only[St.mk.sizeOf_spec];omega
  omega
end Go.Proofs.YtihgdnjkofpgiaaGreatDoor

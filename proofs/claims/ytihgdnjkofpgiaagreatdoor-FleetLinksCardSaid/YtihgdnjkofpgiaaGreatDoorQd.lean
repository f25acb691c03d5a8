/- Own text. -/
import Derived.Test.YtihgdnjkofpgiaaGreatDoorKa
import Derived.Test.YtihgdnjkofpgiaaGreatDoorQb
set_option maxHeartbeats 8000000
set_option maxRecDepth 100000
set_option linter.unusedVariables false
set_option linter.unusedSimpArgs false
namespace Go.Proofs.YtihgdnjkofpgiaaGreatDoor
open Go.Proofs.Tryz
open Go.RowKit Go.Flow Go.Mem Go.Sep Go.In
mutual
def PE.dep:PE→Nat
 |⟨_,_,_,l⟩=>Ic l+1
def Ic:List PE→Nat
 |[]=>0
 |e::r=>max (PE.dep e) (Ic r)
end
theorem gZ:∀(l:List PE) (x:PE),Ic (l++[x])=max (Ic l) x.dep
 |[],x=>by show max x.dep 0=max 0 x.dep;omega
 |e::r,x=>by show max e.dep (Ic (r++[x]))=max (max e.dep (Ic r)) x.dep;rw[gZ r x];omega
theorem nD:∀{l:List PE} {x:PE},x∈l→x.dep≤Ic l
 | e::r,x,h=>by
   show x.dep≤max e.dep (Ic r);rcases aNx.1 h with rfl|h
   ·omega
   ·have:=nD h;omega
mutual
def PE.fine:PE→Prop
 |⟨o,s,n,l⟩=>(1≤o∧o≤23)∧l.length=cK.getD o 0∧((iN.getD o false=true→Np s)∧(iN.getD o false=false→s=nE))∧((o=1→0≤n∧n≤9)∧(o≠1→n=0))∧Nq l
def Nq:List PE→Prop
 |[]=>True
 |e::r=>PE.fine e∧Nq r
end
theorem Vg:∀{l:List PE},Nq l→∀x∈l,x.fine
 |[],_,x,h=>by cases h
 | e::r,h,x,hx=>by
   rcases aNx.1 hx with rfl|hx
   ·exact h.1
   ·exact Vg h.2 x hx
theorem iA:∀{l:List PE},(∀x∈l,x.fine)→Nq l
 |[],_=>trivial
 |e::r,h=>⟨h e (aNu ..),iA fun x hx=>h x (aNs _ hx)⟩
theorem Eo{e x:Ex}(h:e.pure.fine)(hx:x∈e.args):x.pure.fine:=by
 rw[El]at h;refine Vg h.2.2.2.2 x.pure ?_;rw[Bi];exact aOm.2 ⟨x,hx,rfl⟩
theorem Xt{l:List Ex}(h:Nq (Cn l)){x:Ex}(hx:x∈l):x.pure.fine:=Vg h x.pure (by rw[Bi];exact aOm.2 ⟨x,hx,rfl⟩)
structure Ex.Fine(e:Ex):Prop where
 o1:1≤e.op
 o2:e.op≤23
 args:e.args.length=cK.getD e.op 0
 nm1:iN.getD e.op false=true→Np e.name
 nm2:iN.getD e.op false=false→e.name=nE
 n1:e.op=1→0≤e.n
 n3:e.op=1→e.n≤9
 n2:e.op≠1→e.n=0
theorem Jk{e:Ex}(h:e.pure.fine):e.Fine:=by
 rw[El]at h;obtain⟨⟨h1,h2⟩,h3,⟨h4,h5⟩,⟨h6,h7⟩,_⟩:=h;rw[Bi,aNv]at h3;exact⟨h1,h2,h3,h4,h5,fun h=>(h6 h).1,fun h=>(h6 h).2,h7⟩
theorem aAq(o:Nat):cK.getD o 0≤2:=by
 by_cases h:o<24
 · have all:∀o,o<24→cK.getD o 0≤2:=by decide
   exact all o h
 ·show(cK[o]?).getD 0≤2;rw[List.getElem?_eq_none (by show 24≤o;omega)];exact aOk _
section
variable{c:Ct}{np:Nat}
theorem un1{o:Nat}{s:yB}{e:PE}(h:e.fine)(ho:o=9∨o=10):PE.fine ⟨o,nE,0,[e]⟩:=by
 rcases ho with rfl|rfl<;>exact⟨by decide,rfl,⟨fun h=>(by cases h),fun _=>rfl⟩,⟨fun h=>om,fun _=>rfl⟩,h,trivial⟩
theorem bi2{o:Nat}{a b:PE}(ha:a.fine)(hb:b.fine)(h1:11≤o)(h2:o≤23):PE.fine ⟨o,nE,0,[a,b]⟩:=by
 have all:∀o,o<24→11≤o→cK.getD o 0=2∧iN.getD o false=false:=by decide
 obtain⟨e1,e2⟩:=all o om h1;refine⟨⟨by omega,h2⟩,by rw[e1];rfl,⟨fun h=>?_,fun _=>rfl⟩,⟨fun h=>om,fun _=>rfl⟩,ha,hb,trivial⟩;rw[e2]at h;cases h
theorem lf0{o:Nat}{s:yB}{n:Int}(ho:1≤o∧o≤5∨o=8)(h1:o=5∨o=8→Np s)(h2:o≠5→o≠8→s=nE)(h3:o=1→0≤n∧n≤9)(h4:o≠1→n=0):PE.fine ⟨o,s,n,[]⟩:=by
 have all:∀o,o<24→(1≤o∧o≤5∨o=8)→cK.getD o 0=0∧(iN.getD o false=true↔o=5∨o=8):=by decide
 obtain⟨e1,e2⟩:=all o om ho;refine⟨by omega,by rw[e1];rfl,⟨fun h=>h1 (e2.1 h),fun h=>?_⟩,⟨h3,h4⟩,trivial⟩;have:¬(o=5∨o=8):=fun h5=>by rw[e2.2 h5]at h;cases h
 exact h2 om om
theorem tb1{o:Nat}{s:yB}{e:PE}(h:e.fine)(hs:Np s)(ho:o=6∨o=7):PE.fine ⟨o,s,0,[e]⟩:=by
 rcases ho with rfl|rfl<;>exact⟨by decide,rfl,⟨fun _=>hs,fun h=>(by cases h)⟩,⟨fun h=>om,fun _=>rfl⟩,h,trivial⟩
theorem Kq.fine(ok:c.Ok)(hnp:np≤2){d:Nat}{e:PE}(h:Kq c np d e):e.fine∧e.dep≤d+1:=by
 have hi:=ok.ints
 induction h with
 |num d n h=>exact⟨lf0 om om (fun _ _=>rfl) (fun _=>by omega) om,Nat.le_add_left 1 d⟩
 |var d k h=>exact⟨lf0 om (fun _=>uS om) om om (fun _=>rfl),Nat.le_add_left 1 d⟩
 |par d k h=>exact⟨lf0 om (fun _=>UC om) om om (fun _=>rfl),Nat.le_add_left 1 d⟩
 |now d=>exact⟨lf0 om om (fun _ _=>rfl) om (fun _=>rfl),Nat.le_add_left 1 d⟩
 |get d e ht h ih=>exact⟨tb1 ih.1 Yp (.inl rfl),by show max e.dep 0+1≤_;have:=ih.2;omega⟩
 |size d ht=>exact⟨lf0 om (fun _=>Yp) om om (fun _=>rfl),Nat.le_add_left 1 d⟩
 |neg d e h ih=>exact⟨un1 (s:=nE) ih.1 (.inl rfl),by show max e.dep 0+1≤_;have:=ih.2;omega⟩
 |bin d op a b ho ha hb iha ihb=>exact⟨bi2 iha.1 ihb.1 om om,by show max a.dep (max b.dep 0)+1≤_;have:=iha.2;have:=ihb.2;omega⟩
theorem Ow.fine(ok:c.Ok)(hnp:np≤2){d:Nat}{e:PE}(h:Ow c np d e):e.fine∧e.dep≤d+4:=by
 have hf:=ok.flags
 induction h with
 |tf d op h=>exact⟨lf0 om om (fun _ _=>rfl) om (fun _=>rfl),show 1≤d+4 by omega⟩
 |b0 d=>exact⟨lf0 om (fun _=>uU) om om (fun _=>rfl),show 1≤d+4 by omega⟩
 |flag d k h=>exact⟨lf0 om (fun _=>UD om) om om (fun _=>rfl),show 1≤d+4 by omega⟩
 |has d e ht h=>have:=h.fine ok hnp;exact⟨tb1 this.1 Yp (.inr rfl),by show max e.dep 0+1≤_;omega⟩
 |not d e h ih=>exact⟨un1 (s:=nE) ih.1 (.inr rfl),by show max e.dep 0+1≤_;have:=ih.2;omega⟩
 |two d op a b ho ha hb iha ihb=>exact⟨bi2 iha.1 ihb.1 om om,by show max a.dep (max b.dep 0)+1≤_;have:=iha.2;have:=ihb.2;omega⟩
 |cmp d op a b ho ha hb=>have:=ha.fine ok hnp;have:=hb.fine ok hnp;exact⟨bi2 ‹a.fine∧_›.1 ‹b.fine∧_›.1 om om,by show max a.dep (max b.dep 0)+1≤_;omega⟩
end
theorem NC(e:Ex)(hlow:e.pure.low)(hd:e.pure.dep≤100)(ih:∀x∈e.args,x.pure.low→x.pure.dep≤100→Dz 171 [.agg (Bc x).toArray] [all (x.kids Bc)] (fun v Γ'=>v=nv x.pure.dep∧Γ'=[])):
    Dz 171 [.agg (Bc e).toArray] [all (e.kids Bc)] (fun v Γ'=>v=nv e.pure.dep∧Γ'=[]):=by
 obtain⟨hop,hal⟩:=Re hlow;refine Ba func171 ntmps171 fun w0=>?_;refine Js (cz (Jbo fun b1=>?_));refine Jz 10 ?_;refine bv 1 rfl (ros Bc e.A e.args) rfl (Ib e) (Jz 8 ?_);refine Bw (fun s g mz ρ Γ=>∃(m:Nat) (k:Nat),ρ=[s 1,(3,nv m),s 7,(8,nv k)]∧Γ=[g 1,g 0,g 2]∧mz=e.args.length-k∧(k≤e.args.length)∧(m=Ic (Cn (e.args.take k)))∧(m≤100)) ⟨⟨0,0,rfl,rfl,rfl,om,rfl,om⟩,sb⟩ ?_;rintro mz _ _ ⟨m,k,rfl,rfl,rfl,hk,hm,hmb⟩;refine Jz 6 ?_;refine aa rfl ?_ ?_<;>intro c9;obtain⟨x,hx⟩:=ai e.args k om;have hxd:x.pure.dep≤100:=by
  have h:=nD (l:=Cn e.args) (x:=x.pure) (by rw[Bi];exact aOm.2 ⟨x,sN hx,rfl⟩);have h2:e.pure.dep=Ic (Cn e.args)+1:=by rw[El e];rfl
  omega
 refine Jz 10 ?_;refine Bv 2 rfl (x.kids Bc) (Ex.lax Bc x) (Hl hx) (Jz 7 ?_);refine Jqf (ih x (sN hx) (Gv hlow (sN hx)) hxd) (by show owns (x.kids Bc)++[]=[];rw[(Ex.lax Bc x).owns];rfl) (jS (lS 0 rfl) (jP _)) ?_;rintro _ _ ⟨rfl,rfl⟩;refine⟨rfl,?_⟩;refine Jr (Cs (v':=nv (max m x.pure.dep)) (aOa iv om) (Rd.max rfl rfl rfl)) ?_;refine Jz 9 ?_;refine Bp ⟨⟨(max m x.pure.dep),k+1,rfl,rfl,rfl,om,(by rw[Cj hx,Bi,aOb,←Bi];show _=Ic (Cn (e.args.take k)++[x.pure]);rw[gZ,←hm]),om⟩,sb⟩;refine Jz 13 ?_;refine Cb (Ci (Cg (ak results171 ?_)));have h2:e.pure.dep=m+1:=by rw[El e];show Ic (Cn e.args)+1=_;rw[hm,aOq om]
 rw[h2];exact⟨rfl,rfl⟩
theorem JF:∀e:Ex,e.pure.low→e.pure.dep≤100→Dz 171 [.agg (Bc e).toArray] [all (e.kids Bc)] (fun v Γ'=>v=nv e.pure.dep∧Γ'=[])
 |e,h1,h2=>NC e h1 h2 (fun x hx=>JF x)
termination_by e=>SizeOf.sizeOf e
decreasing_by
 cases e with
 | mk op s n A q l=>
   have:=aPb (show x∈l from hx);simp only[Ex.mk.sizeOf_spec];omega
theorem EN(P:OA)(e:Ex)(hf:e.Fine):
    Dz 175 [.pointer (some ⟨blk P,ofs P+0*4,none⟩)] [ros Bc P [e],ay] (fun v _=>v=bt):=by
 refine Ba func175 ntmps175 fun w0=>?_;refine Jz 10 ?_;refine Jr (Cq (i:=0) rfl rfl ZT rfl (gvt (f:=0) (rsg Gt (show([e]:List Ex)[0]?=some e from rfl)) rfl)) ?_;refine Jqf (yI hf.o1 hf.o2) rfl (Lx 1 rfl) ?_;rintro _ _ ⟨c1,d1,rfl,rfl⟩;refine⟨rfl,?_⟩;refine Jz 3 ?_;refine ae fun b3=>?_;refine Jz 9 ?_;refine JgB ?_ ?_<;>intro g16;refine Jz 10 ?_;refine Cb (Ci (Cg (ak results175 ?_)));rfl;refine Jz 3 ?_;refine Jr (Cq (i:=1) rfl rfl c9 rfl (gvt (rsg Gt (show([e]:List Ex)[0]?=some e from rfl)) rfl)) ?_;refine Jvf (Kb (hf.nm1 (by simpa using g16))) rfl (Lx 2 rfl) ?_;refine Jz 5 ?_;refine Cb (Ci (Cg (ak results175 ?_)));rfl
theorem yM(P:OA)(e:Ex)(hf:e.Fine):
    Dz 176 [.pointer (some ⟨blk P,ofs P+0*4,none⟩)] [ros Bc P [e],ay] (fun v _=>v=bt):=by
 refine Ba func176 ntmps176 fun w0=>?_;refine Jz 10 ?_;refine Jr (Cq (i:=0) rfl rfl ZT rfl (gvt (f:=0) (rsg Gt (show([e]:List Ex)[0]?=some e from rfl)) rfl)) ?_;refine Jqf (yI hf.o1 hf.o2) rfl (Lx 1 rfl) ?_;rintro _ _ ⟨c1,d1,rfl,rfl⟩;refine⟨rfl,?_⟩;refine Jz 3 ?_;refine ae fun b3=>?_;refine Jz 16 ?_;refine Jfw [ros Bc P [e],box b3 [nv (cK.getD e.op 0), .bool (iN.getD e.op false),iv c1, .string d1] 349] [0,1,2,3,4,5,6,7,8] (jS (lS 1 rfl) (jS (lS 0 rfl) (jP _))) ?_;refine Jz 3 ?_;refine df rfl (Cq (i:=0) rfl rfl Sg rfl (gvt (rsg Gt (show([e]:List Ex)[0]?=some e from rfl)) rfl)) ?_;refine Jz 3 ?_;refine df rfl (Cs (v':=bf) (aOa Value.bool (aPe (fun h=>h (by rw[hf.args])))) (Rd.neq rfl rfl rfl)) ?_;refine Jz 8 ?_;refine JgB ?_ ?_<;>intro g27;refine Jz 3 ?_;refine Jr (Cq (i:=1) rfl rfl c9 rfl (gvt (rsg Gt (show([e]:List Ex)[0]?=some e from rfl)) rfl)) ?_;refine Jr (Cs (v':=bf) (aOa Value.bool (aPe (fun h=>h (hf.nm2 (by simpa using g27))))) (uR rfl rfl rfl)) ?_;refine Jz 10 ?_;refine Jr (Cq (i:=1) rfl rfl ZT rfl (gvt (f:=0) (rsg Gt (show([e]:List Ex)[0]?=some e from rfl)) rfl)) ?_;refine Jz 4 ?_;refine aa rfl ?_ ?_<;>intro c34;refine Jz 5 ?_;refine Jr (Cq (i:=1) rfl rfl c2 rfl (gvt (rsg Gt (show([e]:List Ex)[0]?=some e from rfl)) rfl)) ?_;refine Jr (Cs (v':=bt) (aOa Value.bool (aOv (hf.n1 om))) (Rd.geq rfl rfl rfl)) ?_;refine Jz 6 ?_;refine Cb (Ci (Cg (ak results176 ?_)));rfl;refine Jz 8 ?_;refine Jr (Cq (i:=1) rfl rfl c2 rfl (gvt (rsg Gt (show([e]:List Ex)[0]?=some e from rfl)) rfl)) ?_;refine Jr (Cs (v':=bt) (aOa Value.bool (aOv (hf.n2 om))) (Rd.eql rfl rfl rfl)) ?_;refine Jz 4 ?_;refine Cb (Ci (Cg (ak results176 ?_)));rfl;refine Jz 15 ?_;refine Jr (Cq (i:=1) rfl rfl ZT rfl (gvt (f:=0) (rsg Gt (show([e]:List Ex)[0]?=some e from rfl)) rfl)) ?_;refine Jz 4 ?_;refine aa rfl ?_ ?_<;>intro c34;refine Jz 5 ?_;refine Jr (Cq (i:=1) rfl rfl c2 rfl (gvt (rsg Gt (show([e]:List Ex)[0]?=some e from rfl)) rfl)) ?_;refine Jr (Cs (v':=bt) (aOa Value.bool (aOv (hf.n1 om))) (Rd.geq rfl rfl rfl)) ?_;refine Jz 6 ?_;refine Cb (Ci (Cg (ak results176 ?_)));rfl;refine Jz 8 ?_;refine Jr (Cq (i:=1) rfl rfl c2 rfl (gvt (rsg Gt (show([e]:List Ex)[0]?=some e from rfl)) rfl)) ?_;refine Jr (Cs (v':=bt) (aOa Value.bool (aOv (hf.n2 om))) (Rd.eql rfl rfl rfl)) ?_;refine Jz 4 ?_;refine Cb (Ci (Cg (ak results176 ?_)));rfl
theorem ND(e:Ex)(hlow:e.pure.low)(hfin:e.pure.fine)(ih:∀x∈e.args,∀P:OA,x.pure.low→x.pure.fine→Dz 218 [.pointer (some ⟨blk P,ofs P+0*4,none⟩), .func (.func 175) #[] #[]] [ros Bc P [x],all (x.kids Bc),ay] (fun v Γ'=>v=bt∧Γ'=[]))(P:OA):
    Dz 218 [.pointer (some ⟨blk P,ofs P+0*4,none⟩), .func (.func 175) #[] #[]] [ros Bc P [e],all (e.kids Bc),ay] (fun v Γ'=>v=bt∧Γ'=[]):=by
 obtain⟨hop,hal⟩:=Re hlow;have hf:=Jk hfin;refine Ba func218 ntmps218 fun w0=>?_;refine Jz 10 ?_;refine JcV rfl rfl rfl (di (first:=[]) (captured:=[]) rfl rfl rfl (kc.h 175 rfl)) (EN P e hf) rfl (jS (lS 0 rfl) (jS (lS 2 rfl) (jP _))) (Jz 8 ?_);refine bv 1 rfl (ros Bc e.A e.args) rfl (Ib e) (Jz 4 ?_);refine Jr (Cq (i:=1) rfl rfl Sg rfl (gvt (rsg Gt (show([e]:List Ex)[0]?=some e from rfl)) rfl)) ?_;refine Jz 5 ?_;refine Bw (fun s g mz ρ Γ=>∃(k:Nat),ρ=[s 0,s 1,s 14,(15,nv k)]∧Γ=[g 1,g 0,g 2,ay]∧mz=e.args.length-k∧(k≤e.args.length)) ⟨⟨0,rfl,rfl,rfl,om⟩,sb⟩ ?_;rintro mz _ _ ⟨k,rfl,rfl,rfl,hk⟩;refine Jz 6 ?_;refine aa rfl ?_ ?_<;>intro c16;obtain⟨x,hx⟩:=ai e.args k om;refine Jz 11 ?_;refine aA Gt de 1 rfl hx (Bv 3 rfl (x.kids Bc) (Ex.lax Bc x) (Hl hx) (Jz 4 ?_));refine Jr (Cq (i:=2) rfl rfl Sg rfl (gvt (rsg Gt (show([e]:List Ex)[0]?=some e from rfl)) rfl)) ?_;refine Jz 3 ?_;refine Jqf (ih x (sN hx) (some ⟨blk e.A,ofs e.A+k*4,none⟩) (Gv hlow (sN hx)) (Eo hfin (sN hx))) (by show[]++(owns (x.kids Bc)++(owns gl++[]))=[];rw[(Ex.lax Bc x).owns];rfl) (jS (lS 1 rfl) (jS (lS 0 rfl) (jS (lS 5 rfl) (jP _)))) ?_;rintro _ _ ⟨rfl,rfl⟩;refine⟨rfl,?_⟩;refine Jz 12 ?_;refine Bp ⟨⟨k+1,rfl,rfl,rfl,om⟩,sb⟩;refine Jz 11 ?_;refine Cr (Cb (Ci (Cg (ak results218 ?_))));exact⟨rfl,rfl⟩
theorem JG:∀(e:Ex) (P:OA),e.pure.low→e.pure.fine→Dz 218 [.pointer (some ⟨blk P,ofs P+0*4,none⟩), .func (.func 175) #[] #[]] [ros Bc P [e],all (e.kids Bc),ay] (fun v Γ'=>v=bt∧Γ'=[])
 |e,P,h1,h2=>ND e h1 h2 (fun x hx=>JG x) P
termination_by e=>SizeOf.sizeOf e
decreasing_by
 cases e with
 | mk op s n A q l=>
   have:=aPb (show x∈l from hx);simp only[Ex.mk.sizeOf_spec];omega
theorem aAr(P:OA)(s:St)(hle:s.exprs.length≤4)(hlow:Ku (Cn s.exprs))(hfin:Nq (Cn s.exprs)):
    Dz 174 [.pointer (some ⟨blk P,ofs P+0*6,none⟩), .func (.func 175) #[] #[]] [ros Bl P [s],all (lsF Bc s.A s.exprs),ay] (fun v Γ'=>v=bt∧Γ'=[]):=by
 refine Ba func174 ntmps174 fun w0=>?_;refine Jz 7 ?_;refine bv 1 rfl (ros Bc s.A s.exprs) rfl (aNu ..) (Jz 4 ?_);refine Jr (Cq (i:=1) rfl rfl Sg rfl (gvt (rsg Ia (show([s]:List St)[0]?=some s from rfl)) rfl)) ?_;refine Jz 5 ?_;refine Bw (fun u g mz ρ Γ=>∃(k:Nat),ρ=[u 0,u 1,u 10,(11,nv k)]∧Γ=[g 1,g 0,g 2,ay]∧mz=s.exprs.length-k∧(k≤s.exprs.length)) ⟨⟨0,rfl,rfl,rfl,om⟩,sb⟩ ?_;rintro mz _ _ ⟨k,rfl,rfl,rfl,hk⟩;refine Jz 6 ?_;refine aa rfl ?_ ?_<;>intro c12;obtain⟨x,hx⟩:=ai s.exprs k om;refine Jz 11 ?_;refine aA Gt de 1 rfl hx (Bv 3 rfl (x.kids Bc) (Ex.lax Bc x) (Xq hx) (Jz 4 ?_));refine Jr (Cq (i:=2) rfl rfl Sg rfl (gvt (rsg Ia (show([s]:List St)[0]?=some s from rfl)) rfl)) ?_;refine Jz 3 ?_;refine Jqf (JG x (some ⟨blk s.A,ofs s.A+k*4,none⟩) (Lp hlow (sN hx)) (Xt hfin (sN hx))) (by show[]++(owns (x.kids Bc)++(owns gl++[]))=[];rw[(Ex.lax Bc x).owns];rfl) (jS (lS 1 rfl) (jS (lS 0 rfl) (jS (lS 5 rfl) (jP _)))) ?_;rintro _ _ ⟨rfl,rfl⟩;refine⟨rfl,?_⟩;refine Jz 12 ?_;refine Bp ⟨⟨k+1,rfl,rfl,rfl,om⟩,sb⟩;refine Jz 11 ?_;refine Cr (Cb (Ci (Cg (ak results174 ?_))));exact⟨rfl,rfl⟩
theorem NE(e:Ex)(hlow:e.pure.low)(hfin:e.pure.fine)(ih:∀x∈e.args,∀P:OA,x.pure.low→x.pure.fine→Dz 218 [.pointer (some ⟨blk P,ofs P+0*4,none⟩), .func (.func 176) #[] #[]] [ros Bc P [x],all (x.kids Bc),ay] (fun v Γ'=>v=bt∧Γ'=[]))(P:OA):
    Dz 218 [.pointer (some ⟨blk P,ofs P+0*4,none⟩), .func (.func 176) #[] #[]] [ros Bc P [e],all (e.kids Bc),ay] (fun v Γ'=>v=bt∧Γ'=[]):=by
 obtain⟨hop,hal⟩:=Re hlow;have hf:=Jk hfin;refine Ba func218 ntmps218 fun w0=>?_;refine Jz 10 ?_;refine JcV rfl rfl rfl (di (first:=[]) (captured:=[]) rfl rfl rfl (kc.h 176 rfl)) (yM P e hf) rfl (jS (lS 0 rfl) (jS (lS 2 rfl) (jP _))) (Jz 8 ?_);refine bv 1 rfl (ros Bc e.A e.args) rfl (Ib e) (Jz 4 ?_);refine Jr (Cq (i:=1) rfl rfl Sg rfl (gvt (rsg Gt (show([e]:List Ex)[0]?=some e from rfl)) rfl)) ?_;refine Jz 5 ?_;refine Bw (fun s g mz ρ Γ=>∃(k:Nat),ρ=[s 0,s 1,s 14,(15,nv k)]∧Γ=[g 1,g 0,g 2,ay]∧mz=e.args.length-k∧(k≤e.args.length)) ⟨⟨0,rfl,rfl,rfl,om⟩,sb⟩ ?_;rintro mz _ _ ⟨k,rfl,rfl,rfl,hk⟩;refine Jz 6 ?_;refine aa rfl ?_ ?_<;>intro c16;obtain⟨x,hx⟩:=ai e.args k om;refine Jz 11 ?_;refine aA Gt de 1 rfl hx (Bv 3 rfl (x.kids Bc) (Ex.lax Bc x) (Hl hx) (Jz 4 ?_));refine Jr (Cq (i:=2) rfl rfl Sg rfl (gvt (rsg Gt (show([e]:List Ex)[0]?=some e from rfl)) rfl)) ?_;refine Jz 3 ?_;refine Jqf (ih x (sN hx) (some ⟨blk e.A,ofs e.A+k*4,none⟩) (Gv hlow (sN hx)) (Eo hfin (sN hx))) (by show[]++(owns (x.kids Bc)++(owns gl++[]))=[];rw[(Ex.lax Bc x).owns];rfl) (jS (lS 1 rfl) (jS (lS 0 rfl) (jS (lS 5 rfl) (jP _)))) ?_;rintro _ _ ⟨rfl,rfl⟩;refine⟨rfl,?_⟩;refine Jz 12 ?_;refine Bp ⟨⟨k+1,rfl,rfl,rfl,om⟩,sb⟩;refine Jz 11 ?_;refine Cr (Cb (Ci (Cg (ak results218 ?_))));exact⟨rfl,rfl⟩
theorem JH:∀(e:Ex) (P:OA),e.pure.low→e.pure.fine→Dz 218 [.pointer (some ⟨blk P,ofs P+0*4,none⟩), .func (.func 176) #[] #[]] [ros Bc P [e],all (e.kids Bc),ay] (fun v Γ'=>v=bt∧Γ'=[])
 |e,P,h1,h2=>NE e h1 h2 (fun x hx=>JH x) P
termination_by e=>SizeOf.sizeOf e
decreasing_by
 cases e with
 | mk op s n A q l=>
   have:=aPb (show x∈l from hx);simp only[Ex.mk.sizeOf_spec];omega
theorem aAs(P:OA)(s:St)(hle:s.exprs.length≤4)(hlow:Ku (Cn s.exprs))(hfin:Nq (Cn s.exprs)):
    Dz 174 [.pointer (some ⟨blk P,ofs P+0*6,none⟩), .func (.func 176) #[] #[]] [ros Bl P [s],all (lsF Bc s.A s.exprs),ay] (fun v Γ'=>v=bt∧Γ'=[]):=by
 refine Ba func174 ntmps174 fun w0=>?_;refine Jz 7 ?_;refine bv 1 rfl (ros Bc s.A s.exprs) rfl (aNu ..) (Jz 4 ?_);refine Jr (Cq (i:=1) rfl rfl Sg rfl (gvt (rsg Ia (show([s]:List St)[0]?=some s from rfl)) rfl)) ?_;refine Jz 5 ?_;refine Bw (fun u g mz ρ Γ=>∃(k:Nat),ρ=[u 0,u 1,u 10,(11,nv k)]∧Γ=[g 1,g 0,g 2,ay]∧mz=s.exprs.length-k∧(k≤s.exprs.length)) ⟨⟨0,rfl,rfl,rfl,om⟩,sb⟩ ?_;rintro mz _ _ ⟨k,rfl,rfl,rfl,hk⟩;refine Jz 6 ?_;refine aa rfl ?_ ?_<;>intro c12;obtain⟨x,hx⟩:=ai s.exprs k om;refine Jz 11 ?_;refine aA Gt de 1 rfl hx (Bv 3 rfl (x.kids Bc) (Ex.lax Bc x) (Xq hx) (Jz 4 ?_));refine Jr (Cq (i:=2) rfl rfl Sg rfl (gvt (rsg Ia (show([s]:List St)[0]?=some s from rfl)) rfl)) ?_;refine Jz 3 ?_;refine Jqf (JH x (some ⟨blk s.A,ofs s.A+k*4,none⟩) (Lp hlow (sN hx)) (Xt hfin (sN hx))) (by show[]++(owns (x.kids Bc)++(owns gl++[]))=[];rw[(Ex.lax Bc x).owns];rfl) (jS (lS 1 rfl) (jS (lS 0 rfl) (jS (lS 5 rfl) (jP _)))) ?_;rintro _ _ ⟨rfl,rfl⟩;refine⟨rfl,?_⟩;refine Jz 12 ?_;refine Bp ⟨⟨k+1,rfl,rfl,rfl,om⟩,sb⟩;refine Jz 11 ?_;refine Cr (Cb (Ci (Cg (ak results174 ?_))));exact⟨rfl,rfl⟩
def vB(l:List PE):Prop:=Nq l∧∀e∈l,e.dep≤8
mutual
def PS.sdep:PS→Nat
 |⟨_,_,_,_,t,e⟩=>max (Cv t) (Cv e)+1
def Cv:List PS→Nat
 |[]=>0
 |s::r=>max (PS.sdep s) (Cv r)
end
theorem dB:∀(l:List PS) (x:PS),Cv (l++[x])=max (Cv l) x.sdep
 |[],x=>by show max x.sdep 0=max 0 x.sdep;omega
 |e::r,x=>by show max e.sdep (Cv (r++[x]))=max (max e.sdep (Cv r)) x.sdep;rw[dB r x];omega
theorem Xu:∀{l:List PS} {x:PS},x∈l→x.sdep≤Cv l
 | e::r,x,h=>by
   show x.sdep≤max e.sdep (Cv r);rcases aNx.1 h with rfl|h
   ·omega
   ·have:=Xu h;omega
theorem Mm{n:Nat}:∀{l:List PS},(∀s∈l,s.sdep≤n)→Cv l≤n
 |[],_=>aOk _
 | e::r,h=>by
   show max e.sdep (Cv r)≤n;have h1:=h e (aNu ..);have h2:=Mm (l:=r) fun s hs=>h s (aNs _ hs);omega
mutual
def PS.fine:PS→Prop
 |⟨k,s,h,es,t,e⟩=>((1≤k∧k≤10)∧((frm k).2.2.1≤es.length∧es.length≤(frm k).2.2.2.1)∧vB es)∧(((frm k).1=true→Np s)∧((frm k).1=false→s=nE))∧(((frm k).2.1=true→Np h)∧((frm k).2.1=false→h=nE))∧(((frm k).2.2.2.2.1=false→t=[])∧((frm k).2.2.2.2.2=false→e=[]))∧Eu t∧Eu e
def Eu:List PS→Prop
 |[]=>True
 |s::r=>PS.fine s∧Eu r
end
theorem dC:∀{l:List PS},Eu l→∀x∈l,x.fine
 |[],_,x,h=>by cases h
 | e::r,h,x,hx=>by
   rcases aNx.1 hx with rfl|hx
   ·exact h.1
   ·exact dC h.2 x hx
theorem Mo:∀{l:List PS},(∀x∈l,x.fine)→Eu l
 |[],_=>trivial
 |e::r,h=>⟨h e (aNu ..),Mo fun x hx=>h x (aNs _ hx)⟩
structure St.Fine(s:St):Prop where
 k1:1≤s.kind
 k2:s.kind≤10
 least:(frm s.kind).2.2.1≤s.exprs.length
 most:s.exprs.length≤(frm s.kind).2.2.2.1
 exprs:Nq (Cn s.exprs)
 deps:∀x∈s.exprs,x.pure.dep≤8
 nm1:(frm s.kind).1=true→Np s.name
 nm2:(frm s.kind).1=false→s.name=nE
 hd1:(frm s.kind).2.1=true→Np s.hand
 hd2:(frm s.kind).2.1=false→s.hand=nE
 thn:(frm s.kind).2.2.2.2.1=false→s.thn=[]
 els:(frm s.kind).2.2.2.2.2=false→s.els=[]
theorem rC{l:List St}(h:Ai l=[]):l=[]:=by
 cases l with
 |nil=>rfl
 |cons a r=>cases h
theorem Vh{s:St}(h:s.pure.fine):s.Fine∧Eu (Ai s.thn)∧Eu (Ai s.els):=by
 rw[Ir]at h;obtain⟨⟨⟨h1,h2⟩,⟨h3,h4⟩,h5,h6⟩,⟨h7,h8⟩,⟨h9,h10⟩,⟨h11,h12⟩,h13,h14⟩:=h;rw[Bi,aNv]at h3 h4;exact⟨⟨h1,h2,h3,h4,h5,fun x hx=>h6 x.pure (by rw[Bi];exact aOm.2 ⟨x,hx,rfl⟩),h7,h8,h9,h10,fun h=>rC (h11 h),fun h=>rC (h12 h)⟩,h13,h14⟩
theorem Tc{l:List St}(h:Eu (Ai l)){x:St}(hx:x∈l):x.pure.fine:=dC h x.pure (by rw[Dg];exact aOm.2 ⟨x,hx,rfl⟩)
section
variable{c:Ct}{np:Nat}
theorem ok1{e:PE}(h:e.fine∧e.dep≤8):vB [e]:=⟨⟨h.1,trivial⟩,fun x hx=>by rw[aNz.1 hx];exact h.2⟩
theorem ok2{a b:PE}(h:a.fine∧a.dep≤8)(h2:b.fine∧b.dep≤8):vB [a,b]:=⟨⟨h.1,h2.1,trivial⟩,fun x hx=>by
 rcases aNx.1 hx with rfl|hx
 ·exact h.2
 ·rw[aNz.1 hx];exact h2.2⟩
theorem okl{l:List PE}(h:∀e∈l,e.fine∧e.dep≤8):vB l:=⟨iA fun x hx=>(h x hx).1,fun x hx=>(h x hx).2⟩
theorem StE.fine(ok:c.Ok)(hnp:np≤2){d:Nat}{s:PS}(h:StE c np d s):s.fine∧s.sdep≤d+1:=by
 have hi:=ok.ints;have I {d:Nat} {e:PE} (h:Kq c np d e) (hd:d≤3):e.fine∧e.dep≤8:=⟨(h.fine ok hnp).1,by have:=(h.fine ok hnp).2;omega⟩
 have B {d:Nat} {e:PE} (h:Ow c np d e) (hd:d≤3):e.fine∧e.dep≤8:=⟨(h.fine ok hnp).1,by have:=(h.fine ok hnp).2;omega⟩
 have par {to h n:Nat} {ar:List Nat} (ha:c.ars[to]?=some ar) (hh:ar[h]?=some n):n≤2∧h<3∧to<3:=by
  have h1:=ok.each ar (sN ha);have h2:=(aNr.1 hh).1;have h3:=(aNr.1 ha).1;have h4:=ok.some;exact⟨h1.2.2 n (sN hh),by omega,by omega⟩
 have nn (p:Prop):(false=true→p):=fun h=>by cases h
 have nt (p:Prop):(true=false→p):=fun h=>by cases h
 induction h with
 |setB d e h=>exact⟨⟨⟨by decide,⟨aOd _,aOd _⟩,ok1 (B h om)⟩,⟨fun _=>uU,nt _⟩,⟨nn _,fun _=>rfl⟩,⟨fun _=>rfl,fun _=>rfl⟩,trivial,trivial⟩,show 1≤d+1 by omega⟩
 |setX d k e hk h=>exact⟨⟨⟨by decide,⟨aOd _,aOd _⟩,ok1 (I h om)⟩,⟨fun _=>uS om,nt _⟩,⟨nn _,fun _=>rfl⟩,⟨fun _=>rfl,fun _=>rfl⟩,trivial,trivial⟩,show 1≤d+1 by omega⟩
 |put d a b ht ha hb=>exact⟨⟨⟨by decide,⟨aOd _,aOd _⟩,ok2 (I ha om) (I hb om)⟩,⟨fun _=>Yp,nt _⟩,⟨nn _,fun _=>rfl⟩,⟨fun _=>rfl,fun _=>rfl⟩,trivial,trivial⟩,show 1≤d+1 by omega⟩
 |del d a ht ha=>exact⟨⟨⟨by decide,⟨aOd _,aOd _⟩,ok1 (I ha om)⟩,⟨fun _=>Yp,nt _⟩,⟨nn _,fun _=>rfl⟩,⟨fun _=>rfl,fun _=>rfl⟩,trivial,trivial⟩,show 1≤d+1 by omega⟩
 | ife d e t l h ht hl iht ihl=>
   refine⟨⟨⟨by decide,⟨aOd _,aOd _⟩,ok1 (B h om)⟩,⟨nn _,fun _=>rfl⟩,⟨nn _,fun _=>rfl⟩,⟨nt _,nt _⟩,Mo fun x hx=>(iht x hx).1,Mo fun x hx=>(ihl x hx).1⟩,?_⟩;have h1:=Mm fun x hx=>(iht x hx).2;have h2:=Mm fun x hx=>(ihl x hx).2;show max (Cv t) (Cv l)+1≤_;omega
 | whl d e t h ht iht=>
   refine⟨⟨⟨by decide,⟨aOd _,aOd _⟩,ok1 (B h om)⟩,⟨nn _,fun _=>rfl⟩,⟨nn _,fun _=>rfl⟩,⟨nt _,fun _=>rfl⟩,Mo fun x hx=>(iht x hx).1,trivial⟩,?_⟩;have h1:=Mm fun x hx=>(iht x hx).2;show max (Cv t) 0+1≤_;omega
 | send d to h ar l ha hh hl=>
   obtain⟨p1,p2,p3⟩:=par ha hh;exact⟨⟨⟨by decide,⟨aOk _,by show l.length≤4;omega⟩,okl fun x hx=>I (hl x hx) om⟩,⟨fun _=>uT p3,nt _⟩,⟨fun _=>EF p2,nt _⟩,⟨fun _=>rfl,fun _=>rfl⟩,trivial,trivial⟩,show 1≤d+1 by omega⟩
 | after d h ar e l ha hh he hl=>
   obtain⟨p1,p2,p3⟩:=par ha hh;refine⟨⟨⟨by decide,⟨by show 1≤l.length+1;omega,by show l.length+1≤5;omega⟩,okl fun x hx=>?_⟩,⟨nn _,fun _=>rfl⟩,⟨fun _=>EF p2,nt _⟩,⟨fun _=>rfl,fun _=>rfl⟩,trivial,trivial⟩,show 1≤d+1 by omega⟩;rcases aNx.1 hx with rfl|hx
   ·exact I he om
   ·exact I (hl x hx) om
 | store d a b l ha hb hl ihl=>
   refine⟨⟨⟨by decide,⟨aOd _,aOd _⟩,ok2 (I ha om) (I hb om)⟩,⟨nn _,fun _=>rfl⟩,⟨nn _,fun _=>rfl⟩,⟨fun _=>rfl,nt _⟩,trivial,Mo fun x hx=>(ihl x hx).1⟩,?_⟩;have h1:=Mm fun x hx=>(ihl x hx).2;show max 0 (Cv l)+1≤_;omega
 | fetch d k e l hk h hl ihl=>
   refine⟨⟨⟨by decide,⟨aOd _,aOd _⟩,ok1 (I h om)⟩,⟨fun _=>uS om,nt _⟩,⟨nn _,fun _=>rfl⟩,⟨fun _=>rfl,nt _⟩,trivial,Mo fun x hx=>(ihl x hx).1⟩,?_⟩;have h1:=Mm fun x hx=>(ihl x hx).2;show max 0 (Cv l)+1≤_;omega
 |stop d=>exact⟨⟨⟨by decide,⟨aOd _,aOd _⟩,trivial,fun x hx=>by cases hx⟩,⟨nn _,fun _=>rfl⟩,⟨nn _,fun _=>rfl⟩,⟨fun _=>rfl,fun _=>rfl⟩,trivial,trivial⟩,show 1≤d+1 by omega⟩
end
theorem NF(l:List St)(ih:∀x∈l,(∀(A:OA) (q:Nat),x.thn.length≤12→Cu (Ai x.thn)→Be (Ai x.thn)≤100→Dz 168 [vs A x.thn q] [all (lsG Bc Bl A x.thn)] (fun v Γ'=>v=nv (Be (Ai x.thn))∧Γ'=[]))∧(∀(A:OA) (q:Nat),x.els.length≤12→Cu (Ai x.els)→Be (Ai x.els)≤100→Dz 168 [vs A x.els q] [all (lsG Bc Bl A x.els)] (fun v Γ'=>v=nv (Be (Ai x.els))∧Γ'=[])))(A:OA)(q:Nat)(hl:l.length≤12)(hlow:Cu (Ai l))(hb:Be (Ai l)≤100):
    Dz 168 [vs A l q] [all (lsG Bc Bl A l)] (fun v Γ'=>v=nv (Be (Ai l))∧Γ'=[]):=by
 refine Ba func168 ntmps168 fun w0=>?_;refine Jz 14 ?_;refine bv 0 rfl (ros Bl A l) rfl (aNu ..) (Jz 7 ?_);refine Il (fun s g mz ρ Γ=>∃(m:Nat) (k:Nat),ρ=[s 0,(3,nv m),s 8,(9,nv k)]∧Γ=[g 0,g 1]∧mz=l.length-k∧(k≤l.length)∧(m+k=l.length+Be (Ai (l.take k)))) ⟨⟨l.length,0,rfl,rfl,rfl,om,rfl⟩,sb⟩ ?_;rintro mz _ _ ⟨m,k,rfl,rfl,rfl,hk,hm⟩;have hmb:Be (Ai (l.take k))≤100:=by
  have h1:Ai l=Ai (l.take k)++Ai (l.drop k):=by rw[Dg,Dg,Dg,←aOb,aPn]
  rw[h1,Kr]at hb;omega
 refine Jz 6 ?_;refine aa rfl ?_ ?_<;>intro c10;obtain⟨x,hx⟩:=ai l k om;obtain⟨hxk,⟨hxe,hxl⟩,⟨hxt,hxtl⟩,hxn,hxnl⟩:=Ii (Hy hlow (sN hx));have hxm:x.pure∈Ai l:=by rw[Dg];exact aOm.2 ⟨x,sN hx,rfl⟩
 have htk:Ai (l.take (k+1))=Ai (l.take k)++[x.pure]:=by rw[Cj hx,Dg,aOb,←Dg];rfl
 have hxc:PS.cnt x.pure=1+Be (Ai x.thn)+Be (Ai x.els):=by rw[Ir x];rfl
 have hxc2:=jH hxm;have hxa:Be (Ai x.thn)≤100:=om;have hxb:Be (Ai x.els)≤100:=om;have hcx:Be (Ai (l.take (k+1)))=Be (Ai (l.take k))+PS.cnt x.pure:=by rw[htk,Kr];show _+(PS.cnt x.pure+0)=_;omega
 refine Jz 10 ?_;refine Bv 1 rfl (lsG Bc Bl x.Ae x.els) (Co _ _ _ _) (fun c hc=>Hw hx c (Fe x c hc)) (Bv 2 rfl (lsG Bc Bl x.At x.thn) (Co _ _ _ _) (fun c hc=>Hw hx c (Gn x c hc)) (Oy [ros Bl A l] [⟨0,[],0⟩,⟨1,[],0⟩,⟨2,[],0⟩,⟨7,[],0⟩,⟨8,[],0⟩,⟨3,[],1⟩,⟨4,[],0⟩,⟨5,[],0⟩,⟨6,[],4⟩,⟨9,[],1⟩,⟨10,[],0⟩,⟨11,[],0⟩,⟨12,[6],4⟩,⟨13,[6,12],0⟩,⟨14,[6,12],0⟩,⟨15,[6,12],0⟩] mixed.h kr (jS (lS 2 rfl) (jP _)) (Jz 8 ?_)));refine Dx rfl rfl rfl rfl rfl .fc ((ih x (sN hx)).1 x.At x.qt hxt hxtl hxa) (by show owns (lsG Bc Bl x.At x.thn)++[]=[];rw[(Co Bc Bl x.At x.thn).owns];rfl) (jS (lS 0 rfl) (jP _)) ?_;rintro _ _ ⟨rfl,rfl⟩;refine⟨rfl,?_⟩;refine Jz 3 ?_;refine Dx rfl rfl rfl rfl rfl .fc ((ih x (sN hx)).2 x.Ae x.qe hxn hxnl hxb) (by show owns (lsG Bc Bl x.Ae x.els)++[]=[];rw[(Co Bc Bl x.Ae x.els).owns];rfl) (jS (lS 1 rfl) (jP _)) ?_;rintro _ _ ⟨rfl,rfl⟩;refine⟨rfl,?_⟩;refine df rfl (Gq (a:=(Be (Ai x.thn))) (b:=(Be (Ai x.els))) rfl rfl rfl om) ?_;refine df rfl (Gq (a:=m) (b:=((Be (Ai x.thn))+(Be (Ai x.els)))) rfl rfl rfl om) ?_;refine Jz 9 ?_;refine Bp ⟨⟨(m+(Be (Ai x.thn)+Be (Ai x.els))),k+1,rfl,rfl,rfl,om,(by rw[hcx,hxc];omega)⟩,sb⟩;refine Jz 12 ?_;refine Ci (Cg (ak results168 ?_));have h2:m=Be (Ai l):=by rw[show k=l.length by omega,List.take_length]at hm;omega
 rw[h2];exact⟨rfl,rfl⟩
theorem vC:∀l:List St,∀(A:OA) (q:Nat),l.length≤12→Cu (Ai l)→Be (Ai l)≤100→Dz 168 [vs A l q] [all (lsG Bc Bl A l)] (fun v Γ'=>v=nv (Be (Ai l))∧Γ'=[])
 |l,A,q,h1,h2,h3=>NF l (fun x hx=>⟨vC x.thn,vC x.els⟩) A q h1 h2 h3
termination_by l=>SizeOf.sizeOf l
decreasing_by
 all_goals
  have h:=aPb hx;have:SizeOf.sizeOf x.thn<SizeOf.sizeOf x∧SizeOf.sizeOf x.els<SizeOf.sizeOf x:=by cases x;simp only[St.mk.sizeOf_spec];omega
  omega
theorem EO(l:List St)(ih:∀x∈l,(∀(A:OA) (q:Nat),x.thn.length≤12→Cu (Ai x.thn)→Cv (Ai x.thn)≤100→Dz 169 [vs A x.thn q] [all (lsG Bc Bl A x.thn)] (fun v Γ'=>v=nv (Cv (Ai x.thn))∧Γ'=[]))∧(∀(A:OA) (q:Nat),x.els.length≤12→Cu (Ai x.els)→Cv (Ai x.els)≤100→Dz 169 [vs A x.els q] [all (lsG Bc Bl A x.els)] (fun v Γ'=>v=nv (Cv (Ai x.els))∧Γ'=[])))(A:OA)(q:Nat)(hl:l.length≤12)(hlow:Cu (Ai l))(hb:Cv (Ai l)≤100):
    Dz 169 [vs A l q] [all (lsG Bc Bl A l)] (fun v Γ'=>v=nv (Cv (Ai l))∧Γ'=[]):=by
 refine Ba func169 ntmps169 fun w0=>?_;refine Jz 13 ?_;refine aa rfl ?_ ?_<;>intro c7;refine Jz 7 ?_;refine Cg (ak results169 ?_);have h0:l=[]:=aQd om;subst h0;exact⟨rfl,rfl⟩;refine Jz 9 ?_;refine bv 0 rfl (ros Bl A l) rfl (aNu ..) (Jz 7 ?_);refine Il (fun s g mz ρ Γ=>∃(m:Nat) (k:Nat),ρ=[s 0,(3,nv m),s 9,(10,nv k)]∧Γ=[g 0,g 1]∧mz=l.length-k∧(k≤l.length)∧(Cv (Ai (l.take k))=if k=0 then 0 else m+1)∧(k=0→m=0)∧(m≤100)) ⟨⟨0,0,rfl,rfl,rfl,om,rfl,(fun _=>rfl),om⟩,sb⟩ ?_;rintro mz _ _ ⟨m,k,rfl,rfl,rfl,hk,hm,hm0,hmb⟩;refine Jz 6 ?_;refine aa rfl ?_ ?_<;>intro c11;obtain⟨x,hx⟩:=ai l k om;obtain⟨hxk,⟨hxe,hxl⟩,⟨hxt,hxtl⟩,hxn,hxnl⟩:=Ii (Hy hlow (sN hx));have hxm:x.pure∈Ai l:=by rw[Dg];exact aOm.2 ⟨x,sN hx,rfl⟩
 have htk:Ai (l.take (k+1))=Ai (l.take k)++[x.pure]:=by rw[Cj hx,Dg,aOb,←Dg];rfl
 have hxc:PS.sdep x.pure=max (Cv (Ai x.thn)) (Cv (Ai x.els))+1:=by rw[Ir x];rfl
 have hxc2:=Xu hxm;have hxa:Cv (Ai x.thn)≤100:=om;have hxb:Cv (Ai x.els)≤100:=om;have hcx:Cv (Ai (l.take (k+1)))=max (Cv (Ai (l.take k))) (PS.sdep x.pure):=by rw[htk,dB]
 refine Jz 10 ?_;refine Bv 1 rfl (lsG Bc Bl x.Ae x.els) (Co _ _ _ _) (fun c hc=>Hw hx c (Fe x c hc)) (Bv 2 rfl (lsG Bc Bl x.At x.thn) (Co _ _ _ _) (fun c hc=>Hw hx c (Gn x c hc)) (Oy [ros Bl A l] [⟨0,[],0⟩,⟨1,[],0⟩,⟨2,[],0⟩,⟨7,[],0⟩,⟨8,[],0⟩,⟨3,[],1⟩,⟨4,[],0⟩,⟨5,[],0⟩,⟨6,[],4⟩,⟨9,[],1⟩,⟨10,[],0⟩,⟨11,[],0⟩,⟨12,[6],4⟩,⟨13,[6,12],0⟩,⟨14,[6,12],0⟩] mixed.h kr (jS (lS 2 rfl) (jP _)) (Jz 8 ?_)));refine Dx rfl rfl rfl rfl rfl .fc ((ih x (sN hx)).1 x.At x.qt hxt hxtl hxa) (by show owns (lsG Bc Bl x.At x.thn)++[]=[];rw[(Co Bc Bl x.At x.thn).owns];rfl) (jS (lS 0 rfl) (jP _)) ?_;rintro _ _ ⟨rfl,rfl⟩;refine⟨rfl,?_⟩;refine Jz 3 ?_;refine Dx rfl rfl rfl rfl rfl .fc ((ih x (sN hx)).2 x.Ae x.qe hxn hxnl hxb) (by show owns (lsG Bc Bl x.Ae x.els)++[]=[];rw[(Co Bc Bl x.Ae x.els).owns];rfl) (jS (lS 1 rfl) (jP _)) ?_;rintro _ _ ⟨rfl,rfl⟩;refine⟨rfl,?_⟩;refine df rfl (Cs (v':=nv (max m (max (Cv (Ai x.thn)) (Cv (Ai x.els))))) (aOa iv om) (Um rfl rfl rfl rfl)) ?_;refine Jz 9 ?_;refine Bp ⟨⟨(max m (max (Cv (Ai x.thn)) (Cv (Ai x.els)))),k+1,rfl,rfl,rfl,om,(by rw[aNy om,hcx,hm,hxc];split<;>omega),(fun h=>by omega),om⟩,sb⟩;refine Jz 13 ?_;refine Ci (Cg (ak results169 ?_));have h2:Cv (Ai l)=m+1:=by rw[show k=l.length by omega,List.take_length,aNy om]at hm;exact hm
 rw[h2];exact⟨rfl,rfl⟩
theorem nG:∀l:List St,∀(A:OA) (q:Nat),l.length≤12→Cu (Ai l)→Cv (Ai l)≤100→Dz 169 [vs A l q] [all (lsG Bc Bl A l)] (fun v Γ'=>v=nv (Cv (Ai l))∧Γ'=[])
 |l,A,q,h1,h2,h3=>EO l (fun x hx=>⟨nG x.thn,nG x.els⟩) A q h1 h2 h3
termination_by l=>SizeOf.sizeOf l
decreasing_by
 all_goals
  have h:=aPb hx;have:SizeOf.sizeOf x.thn<SizeOf.sizeOf x∧SizeOf.sizeOf x.els<SizeOf.sizeOf x:=by cases x;simp only[St.mk.sizeOf_spec];omega
  omega
theorem EP(P:OA)(s:St)(hf:s.Fine)(hle:s.exprs.length≤4)(hlow:Ku (Cn s.exprs)):
    Dz 170 [.pointer (some ⟨blk P,ofs P+0*6,none⟩)] [ros Bl P [s],all (lsF Bc s.A s.exprs),ay] (fun v Γ'=>v=bt∧Γ'=[]):=by
 refine Ba func170 ntmps170 fun w0=>?_;refine Jz 7 ?_;refine bv 1 rfl (ros Bc s.A s.exprs) rfl (aNu ..) (Jz 4 ?_);refine Jr (Cq (i:=1) rfl rfl Sg rfl (gvt (rsg Ia (show([s]:List St)[0]?=some s from rfl)) rfl)) ?_;refine Jz 5 ?_;refine Bw (fun u g mz ρ Γ=>∃(k:Nat),ρ=[u 8,u 9,(10,nv k)]∧Γ=[g 0,g 2]∧mz=s.exprs.length-k∧(k≤s.exprs.length)) ⟨⟨0,rfl,rfl,rfl,om⟩,sb⟩ ?_;rintro mz _ _ ⟨k,rfl,rfl,rfl,hk⟩;refine Jz 6 ?_;refine aa rfl ?_ ?_<;>intro c11;obtain⟨x,hx⟩:=ai s.exprs k om;have hxd:=hf.deps x (sN hx);refine Jz 8 ?_;refine ae fun b4=>?_;refine Jz 4 ?_;refine Bv 2 rfl (x.kids Bc) (Ex.lax Bc x) (Xq hx) (Jz 2 ?_);refine Jqf (JF x (Lp hlow (sN hx)) (aPx hxd de)) (by show owns (x.kids Bc)++[]=[];rw[(Ex.lax Bc x).owns];rfl) (jS (lS 0 rfl) (jP _)) ?_;rintro _ _ ⟨rfl,rfl⟩;refine⟨rfl,?_⟩;refine Jr (Cs (v':=bf) (aOa Value.bool (aPe om)) (Rd.gtr rfl rfl rfl)) ?_;refine Jz 11 ?_;refine Bp ⟨⟨k+1,rfl,rfl,rfl,om⟩,sb⟩;refine Jz 11 ?_;refine Ci (Cg (ak results170 ?_));exact⟨rfl,rfl⟩
theorem EQ(P:OA)(s:St)(hf:s.Fine)(hle:s.exprs.length≤4)(hlow:Ku (Cn s.exprs)):
    Dz 119 [.pointer (some ⟨blk P,ofs P+0*6,none⟩)] [ros Bl P [s],all (lsF Bc s.A s.exprs),ay] (fun v Γ'=>v=bt∧Γ'=[]):=by
 refine Ba func119 ntmps119 fun w0=>?_;refine Jz 10 ?_;refine Jr (Cq (i:=0) rfl rfl aJm rfl (gvt (f:=0) (rsg Ia (show([s]:List St)[0]?=some s from rfl)) rfl)) ?_;refine Jvf (JE hf.k1 hf.k2) rfl (Lx 2 rfl) ?_;refine Jz 3 ?_;refine ae fun b3=>?_;refine Jz 7 ?_;refine Od [0] 34 (false) ?_ ?_;refine Jz 2 ?_;refine JgB ?_ ?_<;>intro g15;refine Jz 3 ?_;refine Jr (Cq (i:=1) rfl rfl c9 rfl (gvt (rsg Ia (show([s]:List St)[0]?=some s from rfl)) rfl)) ?_;refine Jvf (Kb (hf.nm1 (by simpa using g15))) rfl (Lx 3 rfl) ?_;refine Jz 5 ?_;refine JgB ?_ ?_<;>intro g26;refine Jz 3 ?_;refine Jr (Cq (i:=1) rfl rfl c9 rfl (gvt (rsg Ia (show([s]:List St)[0]?=some s from rfl)) rfl)) ?_;refine Jvf (Kb (hf.hd1 (by simpa using g26))) rfl (Lx 3 rfl) ?_;refine Jz 5 ?_;refine Gc rfl rfl;refine Jz 10 ?_;refine Gc rfl rfl;refine Jz 10 ?_;refine JgB ?_ ?_<;>intro g26;refine Jz 3 ?_;refine Jr (Cq (i:=1) rfl rfl c9 rfl (gvt (rsg Ia (show([s]:List St)[0]?=some s from rfl)) rfl)) ?_;refine Jvf (Kb (hf.hd1 (by simpa using g26))) rfl (Lx 3 rfl) ?_;refine Jz 5 ?_;refine Gc rfl rfl;refine Jz 10 ?_;refine Gc rfl rfl;refine Jz 6 ?_;refine Jqf (aAr P s hle hlow hf.exprs) (by show[]++(owns (lsF Bc s.A s.exprs)++(owns gl++[]))=[];rw[(Lm Bc s.A s.exprs).owns];rfl) (jS (lS 1 rfl) (jS (lS 2 rfl) (jS (lS 3 rfl) (jP _)))) ?_;rintro _ _ ⟨rfl,rfl⟩;refine⟨rfl,?_⟩;refine Jz 4 ?_;refine Cr (Cb (Ci (Cg (ak results119 ?_))));exact⟨rfl,rfl⟩
theorem yN(P:OA)(s:St)(hf:s.Fine)(hle:s.exprs.length≤4)(hlow:Ku (Cn s.exprs)):
    Dz 122 [.pointer (some ⟨blk P,ofs P+0*6,none⟩)] [ros Bl P [s],all (lsF Bc s.A s.exprs),ay] (fun v Γ'=>v=bt∧Γ'=[]):=by
 refine Ba func122 ntmps122 fun w0=>?_;refine Jz 10 ?_;refine Jr (Cq (i:=0) rfl rfl aJm rfl (gvt (f:=0) (rsg Ia (show([s]:List St)[0]?=some s from rfl)) rfl)) ?_;refine Jvf (JE hf.k1 hf.k2) rfl (Lx 2 rfl) ?_;refine Jz 3 ?_;refine ae fun b3=>?_;refine Jz 10 ?_;refine Jr (Cq (i:=1) rfl rfl Sg rfl (gvt (rsg Ia (show([s]:List St)[0]?=some s from rfl)) rfl)) ?_;refine Jz 19 ?_;refine Jr (Cs (v':=bf) (aOa Value.bool (aPe (by have:=hf.least;omega))) (Rd.lss rfl rfl rfl)) ?_;refine Jz 8 ?_;refine Jr (Cs (v':=bf) (aOa Value.bool (aPe (by have:=hf.most;omega))) (Rd.gtr rfl rfl rfl)) ?_;refine Jz 7 ?_;refine Od [0,3] 30 (false) ?_ ?_;refine Jz 3 ?_;refine JgB ?_ ?_<;>intro g34;refine Jz 3 ?_;refine Jr (Cq (i:=1) rfl rfl c9 rfl (gvt (rsg Ia (show([s]:List St)[0]?=some s from rfl)) rfl)) ?_;refine Jr (Cs (v':=bf) (aOa Value.bool (aPe (fun h=>h (hf.nm2 (by simpa using g34))))) (uR rfl rfl rfl)) ?_;refine Jz 4 ?_;refine Gc rfl rfl;refine Jz 9 ?_;refine Gc rfl rfl;refine Jz 2 ?_;refine Od [0,3] 30 (false) ?_ ?_;refine Jz 3 ?_;refine JgB ?_ ?_<;>intro g44;refine Jz 3 ?_;refine Jr (Cq (i:=1) rfl rfl c9 rfl (gvt (rsg Ia (show([s]:List St)[0]?=some s from rfl)) rfl)) ?_;refine Jr (Cs (v':=bf) (aOa Value.bool (aPe (fun h=>h (hf.hd2 (by simpa using g44))))) (uR rfl rfl rfl)) ?_;refine Jz 4 ?_;refine Gc rfl rfl;refine Jz 9 ?_;refine Gc rfl rfl;refine Jz 4 ?_;refine Od [0,3] 51 (false) ?_ ?_;refine Jz 3 ?_;refine JgB ?_ ?_<;>intro g55;refine Jz 3 ?_;refine Jr (Cq (i:=1) rfl rfl bS rfl (gvt (rsg Ia (show([s]:List St)[0]?=some s from rfl)) rfl)) ?_;refine Jz 1 ?_;refine Jr (Cs (v':=bf) (aOa Value.bool (aPe (by rw[hf.thn (by simpa using g55)];decide))) (Rd.gtr rfl rfl rfl)) ?_;refine Jz 4 ?_;refine Gc rfl rfl;refine Jz 10 ?_;refine Gc rfl rfl;refine Jz 2 ?_;refine Od [0,3] 51 (false) ?_ ?_;refine Jz 3 ?_;refine JgB ?_ ?_<;>intro g66;refine Jz 3 ?_;refine Jr (Cq (i:=1) rfl rfl bS rfl (gvt (rsg Ia (show([s]:List St)[0]?=some s from rfl)) rfl)) ?_;refine Jz 1 ?_;refine Jr (Cs (v':=bf) (aOa Value.bool (aPe (by rw[hf.els (by simpa using g66)];decide))) (Rd.gtr rfl rfl rfl)) ?_;refine Jz 4 ?_;refine Gc rfl rfl;refine Jz 10 ?_;refine Gc rfl rfl;refine Jz 7 ?_;refine Jqf (aAs P s hle hlow hf.exprs) (by show[]++(owns (lsF Bc s.A s.exprs)++(owns gl++[]))=[];rw[(Lm Bc s.A s.exprs).owns];rfl) (jS (lS 1 rfl) (jS (lS 2 rfl) (jS (lS 3 rfl) (jP _)))) ?_;rintro _ _ ⟨rfl,rfl⟩;refine⟨rfl,?_⟩;refine Jz 4 ?_;refine Cr (Cb (Ci (Cg (ak results122 ?_))));exact⟨rfl,rfl⟩
theorem NG(l:List St)(ih:∀x∈l,(∀(A:OA) (q:Nat),x.thn.length≤12→Cu (Ai x.thn)→Eu (Ai x.thn)→Dz 118 [vs A x.thn q, .func (.func 170) #[] #[]] [all (lsG Bc Bl A x.thn),ay] (fun v Γ'=>v=bt∧Γ'=[]))∧(∀(A:OA) (q:Nat),x.els.length≤12→Cu (Ai x.els)→Eu (Ai x.els)→Dz 118 [vs A x.els q, .func (.func 170) #[] #[]] [all (lsG Bc Bl A x.els),ay] (fun v Γ'=>v=bt∧Γ'=[])))(A:OA)(q:Nat)(hl:l.length≤12)(hlow:Cu (Ai l))(hfin:Eu (Ai l)):
    Dz 118 [vs A l q, .func (.func 170) #[] #[]] [all (lsG Bc Bl A l),ay] (fun v Γ'=>v=bt∧Γ'=[]):=by
 refine Ba func118 ntmps118 fun w0=>?_;refine Jz 7 ?_;refine bv 0 rfl (ros Bl A l) rfl (aNu ..) (Jz 7 ?_);refine Il (fun s g mz ρ Γ=>∃(k:Nat),ρ=[s 0,s 1,s 8,(9,nv k)]∧Γ=[g 0,g 1,ay]∧mz=l.length-k∧(k≤l.length)) ⟨⟨0,rfl,rfl,rfl,om⟩,sb⟩ ?_;rintro mz _ _ ⟨k,rfl,rfl,rfl,hk⟩;refine Jz 6 ?_;refine aa rfl ?_ ?_<;>intro c10;obtain⟨x,hx⟩:=ai l k om;obtain⟨hxk,⟨hxe,hxl⟩,⟨hxt,hxtl⟩,hxn,hxnl⟩:=Ii (Hy hlow (sN hx));have hxf:=Vh (Tc hfin (sN hx));refine Jz 19 ?_;refine aA Ia de 0 rfl hx (Bv 2 rfl (lsG Bc Bl x.Ae x.els) (Co _ _ _ _) (fun c hc=>Hw hx c (Fe x c hc)) (Bv 3 rfl (lsG Bc Bl x.At x.thn) (Co _ _ _ _) (fun c hc=>Hw hx c (Gn x c hc)) (Bv 4 rfl (lsF Bc x.A x.exprs) (Lm _ _ _) (fun c hc=>Hw hx c (Kz x c hc)) (Jz 3 ?_))));refine JcQ rfl rfl rfl (di (first:=[]) (captured:=[]) rfl rfl rfl (kc.h 170 rfl)) (EP (some ⟨blk A,ofs A+k*6,none⟩) x hxf.1 hxe hxl) (by show[]++(owns (lsF Bc x.A x.exprs)++(owns gl++[]))=[];rw[(Lm Bc x.A x.exprs).owns];rfl) (jS (lS 3 rfl) (jS (lS 0 rfl) (jS (lS 6 rfl) (jP _)))) ?_;rintro _ _ ⟨rfl,rfl⟩;refine⟨rfl,?_⟩;refine Jz 7 ?_;refine Jqf ((ih x (sN hx)).1 x.At x.qt hxt hxtl hxf.2.1) (by show owns (lsG Bc Bl x.At x.thn)++(owns gl++[])=[];rw[(Co Bc Bl x.At x.thn).owns];rfl) (jS (lS 1 rfl) (jS (lS 6 rfl) (jP _))) ?_;rintro _ _ ⟨rfl,rfl⟩;refine⟨rfl,?_⟩;refine Jz 8 ?_;refine Jqf ((ih x (sN hx)).2 x.Ae x.qe hxn hxnl hxf.2.2) (by show owns (lsG Bc Bl x.Ae x.els)++(owns gl++[])=[];rw[(Co Bc Bl x.Ae x.els).owns];rfl) (jS (lS 2 rfl) (jS (lS 6 rfl) (jP _))) ?_;rintro _ _ ⟨rfl,rfl⟩;refine⟨rfl,?_⟩;refine Jz 13 ?_;refine Bp ⟨⟨k+1,rfl,rfl,rfl,om⟩,sb⟩;refine Jz 11 ?_;refine Cb (Ci (Cg (ak results118 ?_)));exact⟨rfl,rfl⟩
theorem vD:∀l:List St,∀(A:OA) (q:Nat),l.length≤12→Cu (Ai l)→Eu (Ai l)→Dz 118 [vs A l q, .func (.func 170) #[] #[]] [all (lsG Bc Bl A l),ay] (fun v Γ'=>v=bt∧Γ'=[])
 |l,A,q,h1,h2,h3=>NG l (fun x hx=>⟨vD x.thn,vD x.els⟩) A q h1 h2 h3
termination_by l=>SizeOf.sizeOf l
decreasing_by
 all_goals
  have h:=aPb hx;have:SizeOf.sizeOf x.thn<SizeOf.sizeOf x∧SizeOf.sizeOf x.els<SizeOf.sizeOf x:=by cases x;simp only[St.mk.sizeOf_spec];omega
  omega
theorem NH(l:List St)(ih:∀x∈l,(∀(A:OA) (q:Nat),x.thn.length≤12→Cu (Ai x.thn)→Eu (Ai x.thn)→Dz 118 [vs A x.thn q, .func (.func 119) #[] #[]] [all (lsG Bc Bl A x.thn),ay] (fun v Γ'=>v=bt∧Γ'=[]))∧(∀(A:OA) (q:Nat),x.els.length≤12→Cu (Ai x.els)→Eu (Ai x.els)→Dz 118 [vs A x.els q, .func (.func 119) #[] #[]] [all (lsG Bc Bl A x.els),ay] (fun v Γ'=>v=bt∧Γ'=[])))(A:OA)(q:Nat)(hl:l.length≤12)(hlow:Cu (Ai l))(hfin:Eu (Ai l)):
    Dz 118 [vs A l q, .func (.func 119) #[] #[]] [all (lsG Bc Bl A l),ay] (fun v Γ'=>v=bt∧Γ'=[]):=by
 refine Ba func118 ntmps118 fun w0=>?_;refine Jz 7 ?_;refine bv 0 rfl (ros Bl A l) rfl (aNu ..) (Jz 7 ?_);refine Il (fun s g mz ρ Γ=>∃(k:Nat),ρ=[s 0,s 1,s 8,(9,nv k)]∧Γ=[g 0,g 1,ay]∧mz=l.length-k∧(k≤l.length)) ⟨⟨0,rfl,rfl,rfl,om⟩,sb⟩ ?_;rintro mz _ _ ⟨k,rfl,rfl,rfl,hk⟩;refine Jz 6 ?_;refine aa rfl ?_ ?_<;>intro c10;obtain⟨x,hx⟩:=ai l k om;obtain⟨hxk,⟨hxe,hxl⟩,⟨hxt,hxtl⟩,hxn,hxnl⟩:=Ii (Hy hlow (sN hx));have hxf:=Vh (Tc hfin (sN hx));refine Jz 19 ?_;refine aA Ia de 0 rfl hx (Bv 2 rfl (lsG Bc Bl x.Ae x.els) (Co _ _ _ _) (fun c hc=>Hw hx c (Fe x c hc)) (Bv 3 rfl (lsG Bc Bl x.At x.thn) (Co _ _ _ _) (fun c hc=>Hw hx c (Gn x c hc)) (Bv 4 rfl (lsF Bc x.A x.exprs) (Lm _ _ _) (fun c hc=>Hw hx c (Kz x c hc)) (Jz 3 ?_))));refine JcQ rfl rfl rfl (di (first:=[]) (captured:=[]) rfl rfl rfl (kc.h 119 rfl)) (EQ (some ⟨blk A,ofs A+k*6,none⟩) x hxf.1 hxe hxl) (by show[]++(owns (lsF Bc x.A x.exprs)++(owns gl++[]))=[];rw[(Lm Bc x.A x.exprs).owns];rfl) (jS (lS 3 rfl) (jS (lS 0 rfl) (jS (lS 6 rfl) (jP _)))) ?_;rintro _ _ ⟨rfl,rfl⟩;refine⟨rfl,?_⟩;refine Jz 7 ?_;refine Jqf ((ih x (sN hx)).1 x.At x.qt hxt hxtl hxf.2.1) (by show owns (lsG Bc Bl x.At x.thn)++(owns gl++[])=[];rw[(Co Bc Bl x.At x.thn).owns];rfl) (jS (lS 1 rfl) (jS (lS 6 rfl) (jP _))) ?_;rintro _ _ ⟨rfl,rfl⟩;refine⟨rfl,?_⟩;refine Jz 8 ?_;refine Jqf ((ih x (sN hx)).2 x.Ae x.qe hxn hxnl hxf.2.2) (by show owns (lsG Bc Bl x.Ae x.els)++(owns gl++[])=[];rw[(Co Bc Bl x.Ae x.els).owns];rfl) (jS (lS 2 rfl) (jS (lS 6 rfl) (jP _))) ?_;rintro _ _ ⟨rfl,rfl⟩;refine⟨rfl,?_⟩;refine Jz 13 ?_;refine Bp ⟨⟨k+1,rfl,rfl,rfl,om⟩,sb⟩;refine Jz 11 ?_;refine Cb (Ci (Cg (ak results118 ?_)));exact⟨rfl,rfl⟩
theorem vE:∀l:List St,∀(A:OA) (q:Nat),l.length≤12→Cu (Ai l)→Eu (Ai l)→Dz 118 [vs A l q, .func (.func 119) #[] #[]] [all (lsG Bc Bl A l),ay] (fun v Γ'=>v=bt∧Γ'=[])
 |l,A,q,h1,h2,h3=>NH l (fun x hx=>⟨vE x.thn,vE x.els⟩) A q h1 h2 h3
termination_by l=>SizeOf.sizeOf l
decreasing_by
 all_goals
  have h:=aPb hx;have:SizeOf.sizeOf x.thn<SizeOf.sizeOf x∧SizeOf.sizeOf x.els<SizeOf.sizeOf x:=by cases x;simp only[St.mk.sizeOf_spec];omega
  omega
theorem NI(l:List St)(ih:∀x∈l,(∀(A:OA) (q:Nat),x.thn.length≤12→Cu (Ai x.thn)→Eu (Ai x.thn)→Dz 118 [vs A x.thn q, .func (.func 122) #[] #[]] [all (lsG Bc Bl A x.thn),ay] (fun v Γ'=>v=bt∧Γ'=[]))∧(∀(A:OA) (q:Nat),x.els.length≤12→Cu (Ai x.els)→Eu (Ai x.els)→Dz 118 [vs A x.els q, .func (.func 122) #[] #[]] [all (lsG Bc Bl A x.els),ay] (fun v Γ'=>v=bt∧Γ'=[])))(A:OA)(q:Nat)(hl:l.length≤12)(hlow:Cu (Ai l))(hfin:Eu (Ai l)):
    Dz 118 [vs A l q, .func (.func 122) #[] #[]] [all (lsG Bc Bl A l),ay] (fun v Γ'=>v=bt∧Γ'=[]):=by
 refine Ba func118 ntmps118 fun w0=>?_;refine Jz 7 ?_;refine bv 0 rfl (ros Bl A l) rfl (aNu ..) (Jz 7 ?_);refine Il (fun s g mz ρ Γ=>∃(k:Nat),ρ=[s 0,s 1,s 8,(9,nv k)]∧Γ=[g 0,g 1,ay]∧mz=l.length-k∧(k≤l.length)) ⟨⟨0,rfl,rfl,rfl,om⟩,sb⟩ ?_;rintro mz _ _ ⟨k,rfl,rfl,rfl,hk⟩;refine Jz 6 ?_;refine aa rfl ?_ ?_<;>intro c10;obtain⟨x,hx⟩:=ai l k om;obtain⟨hxk,⟨hxe,hxl⟩,⟨hxt,hxtl⟩,hxn,hxnl⟩:=Ii (Hy hlow (sN hx));have hxf:=Vh (Tc hfin (sN hx));refine Jz 19 ?_;refine aA Ia de 0 rfl hx (Bv 2 rfl (lsG Bc Bl x.Ae x.els) (Co _ _ _ _) (fun c hc=>Hw hx c (Fe x c hc)) (Bv 3 rfl (lsG Bc Bl x.At x.thn) (Co _ _ _ _) (fun c hc=>Hw hx c (Gn x c hc)) (Bv 4 rfl (lsF Bc x.A x.exprs) (Lm _ _ _) (fun c hc=>Hw hx c (Kz x c hc)) (Jz 3 ?_))));refine JcQ rfl rfl rfl (di (first:=[]) (captured:=[]) rfl rfl rfl (kc.h 122 rfl)) (yN (some ⟨blk A,ofs A+k*6,none⟩) x hxf.1 hxe hxl) (by show[]++(owns (lsF Bc x.A x.exprs)++(owns gl++[]))=[];rw[(Lm Bc x.A x.exprs).owns];rfl) (jS (lS 3 rfl) (jS (lS 0 rfl) (jS (lS 6 rfl) (jP _)))) ?_;rintro _ _ ⟨rfl,rfl⟩;refine⟨rfl,?_⟩;refine Jz 7 ?_;refine Jqf ((ih x (sN hx)).1 x.At x.qt hxt hxtl hxf.2.1) (by show owns (lsG Bc Bl x.At x.thn)++(owns gl++[])=[];rw[(Co Bc Bl x.At x.thn).owns];rfl) (jS (lS 1 rfl) (jS (lS 6 rfl) (jP _))) ?_;rintro _ _ ⟨rfl,rfl⟩;refine⟨rfl,?_⟩;refine Jz 8 ?_;refine Jqf ((ih x (sN hx)).2 x.Ae x.qe hxn hxnl hxf.2.2) (by show owns (lsG Bc Bl x.Ae x.els)++(owns gl++[])=[];rw[(Co Bc Bl x.Ae x.els).owns];rfl) (jS (lS 2 rfl) (jS (lS 6 rfl) (jP _))) ?_;rintro _ _ ⟨rfl,rfl⟩;refine⟨rfl,?_⟩;refine Jz 13 ?_;refine Bp ⟨⟨k+1,rfl,rfl,rfl,om⟩,sb⟩;refine Jz 11 ?_;refine Cb (Ci (Cg (ak results118 ?_)));exact⟨rfl,rfl⟩
theorem vF:∀l:List St,∀(A:OA) (q:Nat),l.length≤12→Cu (Ai l)→Eu (Ai l)→Dz 118 [vs A l q, .func (.func 122) #[] #[]] [all (lsG Bc Bl A l),ay] (fun v Γ'=>v=bt∧Γ'=[])
 |l,A,q,h1,h2,h3=>NI l (fun x hx=>⟨vF x.thn,vF x.els⟩) A q h1 h2 h3
termination_by l=>SizeOf.sizeOf l
decreasing_by
 all_goals
  have h:=aPb hx;have:SizeOf.sizeOf x.thn<SizeOf.sizeOf x∧SizeOf.sizeOf x.els<SizeOf.sizeOf x:=by cases x;simp only[St.mk.sizeOf_spec];omega
  omega
end Go.Proofs.YtihgdnjkofpgiaaGreatDoor

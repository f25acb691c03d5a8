/- Own text. -/
import Derived.Test.YtlihklladkagpaaGreatDoorVa
set_option linter.unusedVariables false
set_option linter.unusedSimpArgs false
set_option maxHeartbeats 2000000
set_option maxRecDepth 100000
namespace Go.Proofs.YtlihklladkagpaaGreatDoor
open Go.Proofs.Tryz
open Go.RowKit Go.Flow Go.Mem Go.Sep Go.In
structure Scp where
 Af:OA
 qf:Nat
 flags:List Fg
 Av:OA
 qv:Nat
 vars:List Vr
 Ap:OA
 qp:Nat
 ps:List ByteArray
abbrev jS(b:Nat)(S:Scp)(r:List Value):List Value:=pv b::vs S.Af S.flags S.qf::vs S.Av S.vars S.qv::vs S.Ap S.ps S.qp::r
def fdV(l:List Vr)(s:ByteArray):Option Vr:=l.find? (fun x:Vr=>decide (x.name=s))
def fdC(l:List Cm)(s:ByteArray):Option Cm:=l.find? (fun x:Cm=>decide (x.name=s))
structure Scp.Low(σ:Scp):Prop where
 f:σ.flags.length≤2
 v:σ.vars.length≤5
 p:σ.ps.length≤2
def Scp.Nm(σ:Scp)(s:ByteArray)(t:Nat):Prop:=((ixF s 0 σ.ps).isSome=true∧t=1)∨((ixF s 0 σ.ps).isSome=false∧∃v,fdV σ.vars s=some v∧v.ty≠3∧t=v.ty)∨((ixF s 0 σ.ps).isSome=false∧fdV σ.vars s=none∧(ixF s 0 (σ.flags.map Fg.name)).isSome=true∧t=2)
def Scp.Ch(σ:Scp)(s:ByteArray)(t:Nat):Prop:=(ixF s 0 σ.ps).isSome=false∧∃v,fdV σ.vars s=some v∧v.ty=t
structure OpT(σ:Scp)(o:Nat)(s:ByteArray)(u t:Nat):Prop where
 ar:1≤o∧o≤23∧u≤2∧t≤2∧(o=1∨o=4→t=1)∧(o=2∨o=3→t=2)∧(o=8→t=1)∧(o=16∨o=17→t=2)∧(o=10∨o=22∨o=23→u=2∧t=2)∧(18≤o∧o≤21→u=1∧t=2)∧(o=7→u=1∧t=2)∧(o=6∨o=9∨11≤o∧o≤15→u=1∧t=1)
 nm:o=5→σ.Nm s t
 tb:o=6∨o=7∨o=8→σ.Ch s 3
mutual
def PE.Ty(σ:Scp):PE→Nat→Prop
 |⟨o,s,_,l⟩,t=>∃u,Od σ l u∧(l.length=0→u=0)∧OpT σ o s u t
def Od(σ:Scp):List PE→Nat→Prop
 |[],_=>True
 |e::r,u=>PE.Ty σ e u∧Od σ r u
end
theorem kE{σ:Scp}:∀{l:List PE} {u:Nat},Od σ l u→∀x∈l,x.Ty σ u
 |[],_,_,x,h=>by cases h
 | e::r,u,h,x,hx=>by
   rcases aEi.1 hx with rfl|hx
   ·exact h.1
   ·exact kE h.2 x hx
theorem bW{σ:Scp}{u:Nat}:∀{l:List PE},(∀x∈l,x.Ty σ u)→Od σ l u
 |[],_=>trivial
 |e::r,h=>⟨h e (aEd ..),bW fun x hx=>h x (aEb _ hx)⟩
theorem nG{σ:Scp}{u:Nat}{l:List Ex}(h:Od σ (Cv l) u){x:Ex}(hx:x∈l):x.pure.Ty σ u:=kE h x.pure (by rw[Bz];exact aEv.2 ⟨x,hx,rfl⟩)
theorem MM{σ:Scp}{t:Nat}{e:Ex}(h:e.pure.Ty σ t):∃u,(Od σ (Cv e.args) u)∧(e.args.length=0→u=0)∧OpT σ e.op e.name u t:=by
 rw[Fu]at h
 obtain⟨u,h1,h2,h3⟩:=h
 exact⟨u,h1,fun h=>h2 (by rw[Bz,aEg];exact h),h3⟩
theorem BQ(σ:Scp)(hσ:σ.Low)(s:ByteArray)(t:Nat)(h:σ.Ch s t):
    Dz 224 [.agg #[vs σ.Af σ.flags σ.qf,vs σ.Av σ.vars σ.qv,vs σ.Ap σ.ps σ.qp], .string s] [ros Iy σ.Av σ.vars,ros encZ σ.Ap σ.ps] (fun v Γ'=>∃w:Vr,v= .tuple #[.agg (Iy w).toArray, .bool true]∧Γ'=[]∧w.ty=t):=by
 refine Am func224 ntmps224 fun w0=>?_
 refine Js (To.g (Jbo fun b2=>?_))
 refine Jal fun b4=>?_
 refine Jz 9 ?_
 refine Jvf (Tc σ.Ap σ.qp σ.ps s _ (by have:=hσ.p;omega) rfl) rfl (ocs (oca 3 rfl) (ocn _)) ?_
 refine Jn (Jt (Ed rfl (fun k9=>?_) (fun k9=>?_)))
 exact absurd (k9.symm.trans h.1) (by decide)
 refine Jz 7 ?_
 refine Jvf (fJ σ.Av σ.qv σ.vars s _ (by have:=hσ.v;omega) rfl) rfl (ocs (oca 2 rfl) (ocn _)) ?_
 refine Jz 7 ?_
 refine Lp [] rfl (.inl rfl) results224 rfl (i:=0) rfl QK rfl rfl ?_
 obtain⟨_,w,hw,ht⟩:=h;rw[show List.find? (fun x:Vr=>decide (x.name=s)) σ.vars=some w from hw];exact⟨w,rfl,rfl,ht⟩
theorem MN(σ:Scp)(hσ:σ.Low)(s:ByteArray)(t:Nat)(h:σ.Nm s t):
    Dz 230 [.agg #[vs σ.Af σ.flags σ.qf,vs σ.Av σ.vars σ.qv,vs σ.Ap σ.ps σ.qp], .string s] [ros Gx σ.Af σ.flags,ros Iy σ.Av σ.vars,ros encZ σ.Ap σ.ps] (fun v _=>v= .tuple #[.int .u8 ((t:Nat):Int),iv 0]):=by
 refine Am func230 ntmps230 fun w0=>?_
 refine Js (To.g (Jbo fun b2=>?_))
 refine Jz 10 ?_
 refine Jvf (Tc σ.Ap σ.qp σ.ps s _ (by have:=hσ.p;omega) rfl) rfl (ocs (oca 3 rfl) (ocn _)) ?_
 refine Jn (Jt (Ed rfl (fun k11=>?_) (fun k11=>?_)))
 refine Jz 8 ?_
 refine Gc (.inl rfl) results230 rfl rfl ?_
 unfold Scp.Nm fdV at h;generalize List.find? (fun x:Vr=>decide (x.name=s)) σ.vars=o2 at*;cases o2<;>simp_all<;>omega
 refine Jz 7 ?_
 refine Jvf (fJ σ.Av σ.qv σ.vars s _ (by have:=hσ.v;omega) rfl) rfl (ocs (oca 2 rfl) (ocn _)) ?_
 refine Jz 3 ?_
 refine Jal fun b6=>?_
 refine Jz 9 ?_
 refine JgB ?_ ?_<;>intro g21
 refine Jz 7 ?_
 refine Jcp rfl ?_ ?_<;>intro k19
 refine Jz 9 ?_
 refine Gc (.inl rfl) results230 rfl rfl ?_
 unfold Scp.Nm fdV at h;generalize List.find? (fun x:Vr=>decide (x.name=s)) σ.vars=o2 at*;cases o2<;>simp_all<;>omega
 refine Jz 6 ?_
 refine Ed rfl ?_ ?_<;>intro k26
 refine Jz 11 ?_
 refine Gc (.inl rfl) results230 rfl rfl ?_
 unfold Scp.Nm fdV at h;generalize List.find? (fun x:Vr=>decide (x.name=s)) σ.vars=o2 at*;cases o2<;>simp_all<;>omega
 refine Jz 5 ?_
 refine Jvf (Tx σ.Af σ.qf σ.flags s _ (by have:=hσ.f;omega) rfl) rfl (ocs (oca 2 rfl) (ocn _)) ?_
 refine Jz 3 ?_
 refine Ed rfl ?_ ?_<;>intro k30
 refine Jz 9 ?_
 refine Gc (.inl rfl) results230 rfl rfl ?_
 unfold Scp.Nm fdV at h;generalize List.find? (fun x:Vr=>decide (x.name=s)) σ.vars=o2 at*;cases o2<;>simp_all<;>omega
 refine Jz 10 ?_
 refine Gc (.inl rfl) results230 rfl rfl ?_
 unfold Scp.Nm fdV at h;generalize List.find? (fun x:Vr=>decide (x.name=s)) σ.vars=o2 at*;cases o2<;>simp_all<;>omega
 refine Jz 14 ?_
 refine Ed rfl ?_ ?_<;>intro k26
 refine Jz 11 ?_
 refine Gc (.inl rfl) results230 rfl rfl ?_
 unfold Scp.Nm fdV at h;generalize List.find? (fun x:Vr=>decide (x.name=s)) σ.vars=o2 at*;cases o2<;>simp_all<;>omega
 refine Jz 5 ?_
 refine Jvf (Tx σ.Af σ.qf σ.flags s _ (by have:=hσ.f;omega) rfl) rfl (ocs (oca 2 rfl) (ocn _)) ?_
 refine Jz 3 ?_
 refine Ed rfl ?_ ?_<;>intro k30
 refine Jz 9 ?_
 refine Gc (.inl rfl) results230 rfl rfl ?_
 unfold Scp.Nm fdV at h;generalize List.find? (fun x:Vr=>decide (x.name=s)) σ.vars=o2 at*;cases o2<;>simp_all<;>omega
 refine Jz 10 ?_
 refine Gc (.inl rfl) results230 rfl rfl ?_
 unfold Scp.Nm fdV at h;generalize List.find? (fun x:Vr=>decide (x.name=s)) σ.vars=o2 at*;cases o2<;>simp_all<;>omega
theorem bX(σ:Scp)(hσ:σ.Low)(s:ByteArray)(h:σ.Ch s 3):
    Dz 232 [.agg #[vs σ.Af σ.flags σ.qf,vs σ.Av σ.vars σ.qv,vs σ.Ap σ.ps σ.qp], .string s] [ros Iy σ.Av σ.vars,ros encZ σ.Ap σ.ps] (fun v _=>v=iv 0):=by
 refine Am func232 ntmps232 fun w0=>?_
 refine Js (To.g (Jbo fun b2=>?_))
 refine Jz 7 ?_
 refine Jqf (BQ σ hσ s _ h) rfl (ocs (oca 1 rfl) (ocs (oca 2 rfl) (ocn _))) ?_
 rintro _ _ ⟨w,rfl,rfl,hw⟩
 refine⟨rfl,?_⟩
 refine Jz 3 ?_
 refine Jal fun b5=>?_
 refine Jz 18 ?_
 refine Jr (Cr (v':= .bool false) (congrArg Value.bool (aEo om)) (Rd.neq rfl rfl rfl)) ?_
 refine Jz 13 ?_
 refine Je1 results232 ?_
 rfl
theorem Xb(σ:Scp)(s:ByteArray)(t:Nat):
    Dz 231 [.agg #[vs σ.Af σ.flags σ.qf,vs σ.Av σ.vars σ.qv,vs σ.Ap σ.ps σ.qp], .int .u8 ((t:Nat):Int), .string s,iv 0] [] (fun v _=>v= .tuple #[.int .u8 ((t:Nat):Int), .string nE,iv 0]):=by
 refine Am func231 ntmps231 fun w0=>?_
 refine Js (To.g (Jbo fun b4=>?_))
 refine Jz 24 ?_
 refine Vk (.inl rfl) results231 rfl rfl rfl ?_
 rfl
theorem yG(σ:Scp)(A:OA)(q:Nat)(l:List Ex)(u:Nat)(ih:∀x∈l,∀t:Nat,x.pure.low→x.pure.Ty σ t→Dz 225 [.agg #[vs σ.Af σ.flags σ.qf,vs σ.Av σ.vars σ.qv,vs σ.Ap σ.ps σ.qp], .agg (Bw x).toArray] [all (x.kids Bw),ros Gx σ.Af σ.flags,ros Iy σ.Av σ.vars,ros encZ σ.Ap σ.ps] (fun v Γ'=>v= .tuple #[.int .u8 ((t:Nat):Int), .string nE,iv 0]∧Γ'=[]))(hl:l.length≤12)(hlow:Kk (Cv l))(hty:Od σ (Cv l) u)(hu0:l.length=0→u=0):
    Dz 229 [.agg #[vs σ.Af σ.flags σ.qf,vs σ.Av σ.vars σ.qv,vs σ.Ap σ.ps σ.qp],vs A l q] [all (lsF Bw A l),ros Gx σ.Af σ.flags,ros Iy σ.Av σ.vars,ros encZ σ.Ap σ.ps] (fun v Γ'=>v= .tuple #[.int .u8 ((u:Nat):Int), .string nE,iv 0]∧Γ'=[]):=by
 refine Am func229 ntmps229 fun w0=>?_
 refine Js (To.g (Jbo fun b2=>?_))
 refine Jz 12 ?_
 refine To.one 1 rfl (ros Bw A l) rfl (aEd ..) (Jz 7 ?_)
 refine Cw (fun s g mz ρ Γ=>∃(tk:Nat) (k:Nat),ρ=[s 2,(4, .int .u8 ((tk:Nat):Int)),s 7,s 13,s 14,(15,nv k)]∧Γ=[g 1,g 0,g 2,g 3,g 4,g 5]∧mz=l.length-k∧(k≤l.length)∧(k=0→tk=0)∧(0<k→tk=u)) ⟨⟨0,0,rfl,rfl,rfl,om,(fun _=>rfl),(fun h=>absurd h (by decide))⟩,sb⟩ ?_
 rintro mz _ _ ⟨tk,k,rfl,rfl,rfl,hk,hk0,hk1⟩
 refine Jz 6 ?_
 refine Jcp rfl ?_ ?_<;>intro c16
 obtain⟨x,hx⟩:=exg l k om
 refine Jz 9 ?_
 refine Jal fun b9=>?_
 refine Jz 5 ?_
 refine Db 3 rfl (x.kids Bw) (Ex.lax Bw x) (Yo hx) (Jz 3 ?_)
 refine Jqf (ih x (mog hx) u (Ob hlow (mog hx)) (nG hty (mog hx))) (by show owns (x.kids Bw)++[]=[];rw[(Ex.lax Bw x).owns];rfl) (ocs (oca 0 rfl) (ocs (oca 5 rfl) (ocs (oca 6 rfl) (ocs (oca 7 rfl) (ocn _))))) ?_
 rintro _ _ ⟨rfl,rfl⟩
 refine⟨rfl,?_⟩
 refine Jz 26 ?_
 refine Jcp rfl ?_ ?_<;>intro c32
 refine Jz 10 ?_
 refine Jr (Cr (v':= .bool true) (congrArg Value.bool (aEk om)) (Rd.eql rfl rfl rfl)) ?_
 refine Jz 10 ?_
 refine Cg ⟨⟨u,k+1,rfl,rfl,rfl,om,(fun h=>by omega),(fun _=>by omega)⟩,sb⟩
 refine Jz 7 ?_
 refine Jr (Cr (v':= .bool true) (congrArg Value.bool (aEk om)) (Rd.eql rfl rfl rfl)) ?_
 refine Jz 10 ?_
 refine Cg ⟨⟨tk,k+1,rfl,rfl,rfl,om,(fun h=>by omega),(fun _=>by omega)⟩,sb⟩
 refine Jz 24 ?_
 refine Iu (Er (Dl (Cu (Df (Du (Vk (.inl rfl) results229 rfl rfl rfl ?_))))))
 obtain rfl:tk=u:=om
 exact⟨rfl,rfl⟩
theorem uL(σ:Scp)(hσ:σ.Low)(e:Ex)(τ u:Nat)(ih:∀x∈e.args,∀t:Nat,x.pure.low→x.pure.Ty σ t→Dz 225 [.agg #[vs σ.Af σ.flags σ.qf,vs σ.Av σ.vars σ.qv,vs σ.Ap σ.ps σ.qp], .agg (Bw x).toArray] [all (x.kids Bw),ros Gx σ.Af σ.flags,ros Iy σ.Av σ.vars,ros encZ σ.Ap σ.ps] (fun v Γ'=>v= .tuple #[.int .u8 ((t:Nat):Int), .string nE,iv 0]∧Γ'=[]))(hal:e.args.length≤2)(hlA:Kk (Cv e.args))(hty:Od σ (Cv e.args) u)(hu0:e.args.length=0→u=0)(hop:OpT σ e.op e.name u τ):
    Dz 225 [.agg #[vs σ.Af σ.flags σ.qf,vs σ.Av σ.vars σ.qv,vs σ.Ap σ.ps σ.qp], .agg (Bw e).toArray] [all (e.kids Bw),ros Gx σ.Af σ.flags,ros Iy σ.Av σ.vars,ros encZ σ.Ap σ.ps] (fun v Γ'=>v= .tuple #[.int .u8 ((τ:Nat):Int), .string nE,iv 0]∧Γ'=[]):=by
 obtain⟨har,hnm,htb⟩:=hop
 refine Am func225 ntmps225 fun w0=>?_
 refine Js (To.g (Jbo fun b2=>?_))
 refine Jbo fun b3=>?_
 refine Jz 6 ?_
 refine Db 2 rfl (lsF Bw e.A e.args) (Ma _ _ _) (fun c hc=>by rw[Lg];exact hc) (Jz 4 ?_)
 refine Jqf (yG σ e.A e.q e.args u ih om hlA hty hu0) (by show owns (lsF Bw e.A e.args)++[]=[];rw[(Ma Bw e.A e.args).owns];rfl) (ocs (oca 0 rfl) (ocs (oca 4 rfl) (ocs (oca 5 rfl) (ocs (oca 6 rfl) (ocn _))))) ?_
 rintro _ _ ⟨rfl,rfl⟩
 refine⟨rfl,?_⟩
 refine Jz 32 ?_
 refine Ru (T:=(Nat)×(Nat)) (fun t=>([(2,pv b2),(3,pv b3),(4, .int .u8 ((u:Nat):Int)),(7, .int .u8 (((t.1):Nat):Int)),(8, .int .u8 (((t.2):Nat):Int))],[box b2 [vs σ.Af σ.flags σ.qf,vs σ.Av σ.vars σ.qv,vs σ.Ap σ.ps σ.qp] 339,box b3 (Bw e) 249,ros Gx σ.Af σ.flags,ros Iy σ.Av σ.vars,ros encZ σ.Ap σ.ps])) (fun t=>((t.1)=u)∧((t.2)=τ)) ?_ ?_
 refine Jz 8 ?_
 refine Jcp rfl ?_ ?_<;>intro k23
 refine Jsp (Jt (Gm (congrArg (fun b=>some (Value.bool b)) (aEk k23)) (Jz 10 ?_)))
 refine Lj (Iu (Er (Dl (Cu (Df (Du (Vk (.inl rfl) results225 rfl rfl rfl ?_)))))))
 obtain rfl:τ=1:=om
 exact⟨rfl,rfl⟩
 refine Jz 5 ?_
 refine Jcp rfl ?_ ?_<;>intro k23_2
 refine Jz 10 ?_
 refine Lj (Iu (Er (Dl (Cu (Df (Du (Vk (.inl rfl) results225 rfl rfl rfl ?_)))))))
 obtain rfl:τ=1:=om
 exact⟨rfl,rfl⟩
 refine Jz 7 ?_
 refine Jcp rfl ?_ ?_<;>intro k26
 refine Jsp (Jt (Gm (congrArg (fun b=>some (Value.bool b)) (aEk k26)) (Jz 10 ?_)))
 refine Lj (Iu (Er (Dl (Cu (Df (Du (Vk (.inl rfl) results225 rfl rfl rfl ?_)))))))
 obtain rfl:τ=2:=om
 exact⟨rfl,rfl⟩
 refine Jz 5 ?_
 refine Jcp rfl ?_ ?_<;>intro k26_2
 refine Jz 10 ?_
 refine Lj (Iu (Er (Dl (Cu (Df (Du (Vk (.inl rfl) results225 rfl rfl rfl ?_)))))))
 obtain rfl:τ=2:=om
 exact⟨rfl,rfl⟩
 refine Jz 6 ?_
 refine Jcp rfl ?_ ?_<;>intro k29
 refine Jz 5 ?_
 refine Jvf (MN σ hσ e.name τ (hnm om)) rfl (ocs (oca 4 rfl) (ocs (oca 5 rfl) (ocs (oca 6 rfl) (ocn _)))) ?_
 refine Jz 14 ?_
 refine Jvf (Xb σ e.name τ) rfl (ocn _) ?_
 refine Jz 11 ?_
 refine Lj (Iu (Er (Dl (Cu (Df (Du (Vk (.inl rfl) results225 rfl rfl rfl ?_)))))))
 exact⟨rfl,rfl⟩
 refine Jz 6 ?_
 refine Jcp rfl ?_ ?_<;>intro k47
 refine Js (Jfw [] [1,4,103,105,306,100,102,307,8,9,10,11,12,13] (ocn _) ?_)
 refine Jz 4 ?_
 refine Fw.qf (bX σ hσ e.name (htb om)) (ocs (oca 5 rfl) (ocs (oca 6 rfl) (ocn _))) ?_
 refine Jz 2 ?_
 refine Fw.qf (Xb σ e.name 1) (ocn _) ?_
 refine Jz 11 ?_
 refine Lj (Iu (Er (Dl (Cu (Df (Du (Vk (.inl rfl) results225 rfl rfl rfl ?_)))))))
 obtain rfl:τ=1:=om
 exact⟨rfl,rfl⟩
 refine Jz 7 ?_
 refine Jcp rfl ?_ ?_<;>intro k60
 refine Jsp (Jt (Gm (congrArg (fun b=>some (Value.bool b)) (aEk k60)) (Jz 7 ?_)))
 refine Lv (u,2) ⟨om,om⟩
 refine Jz 5 ?_
 refine Jcp rfl ?_ ?_<;>intro k60_2
 refine Jz 7 ?_
 refine Lv (u,2) ⟨om,om⟩
 refine Jz 7 ?_
 refine Jcp rfl ?_ ?_<;>intro k64
 refine Jsp (Jt (Gm (congrArg (fun b=>some (Value.bool b)) (aEk k64)) (Jz 6 ?_)))
 refine Lv (2,2) ⟨om,om⟩
 refine Jz 6 ?_
 refine Jcp rfl ?_ ?_<;>intro k64_2
 refine Jsp (Jt (Gm (congrArg (fun b=>some (Value.bool b)) (aEk k64_2)) (Jz 6 ?_)))
 refine Lv (2,2) ⟨om,om⟩
 refine Jz 5 ?_
 refine Jcp rfl ?_ ?_<;>intro k64_3
 refine Jz 6 ?_
 refine Lv (2,2) ⟨om,om⟩
 refine Jz 7 ?_
 refine Jcp rfl ?_ ?_<;>intro k68
 refine Jsp (Jt (Gm (congrArg (fun b=>some (Value.bool b)) (aEk k68)) (Jz 5 ?_)))
 refine Lv (1,2) ⟨om,om⟩
 refine Jz 6 ?_
 refine Jcp rfl ?_ ?_<;>intro k68_2
 refine Jsp (Jt (Gm (congrArg (fun b=>some (Value.bool b)) (aEk k68_2)) (Jz 5 ?_)))
 refine Lv (1,2) ⟨om,om⟩
 refine Jz 6 ?_
 refine Jcp rfl ?_ ?_<;>intro k68_3
 refine Jsp (Jt (Gm (congrArg (fun b=>some (Value.bool b)) (aEk k68_3)) (Jz 5 ?_)))
 refine Lv (1,2) ⟨om,om⟩
 refine Jz 6 ?_
 refine Jcp rfl ?_ ?_<;>intro k68_4
 refine Jsp (Jt (Gm (congrArg (fun b=>some (Value.bool b)) (aEk k68_4)) (Jz 5 ?_)))
 refine Lv (1,2) ⟨om,om⟩
 refine Jz 5 ?_
 refine Jcp rfl ?_ ?_<;>intro k68_5
 refine Jz 5 ?_
 refine Lv (1,2) ⟨om,om⟩
 refine Jz 3 ?_
 refine Lv (1,1) ⟨om,om⟩
 rintro⟨nd,rs⟩ ⟨hnd,hrs⟩
 replace hnd:nd=u:=hnd
 replace hrs:rs=τ:=hrs
 dsimp only
 refine Jz 5 ?_
 refine Jr (Cr (v':= .bool false) (congrArg Value.bool (aEo om)) (Rd.neq rfl rfl rfl)) ?_
 refine Jz 11 ?_
 refine JgP ?_ ?_<;>intro g80
 refine Jz 8 ?_
 refine Jfw [] [1,2,5,104,106,307,100,103,308,9,10,11,12,13,14] (ocn _) ?_
 refine Jz 5 ?_
 refine Fw.qf (bX σ hσ e.name (htb om)) (ocs (oca 3 rfl) (ocs (oca 4 rfl) (ocn _))) ?_
 refine Jz 2 ?_
 refine Fw.qf (Xb σ e.name rs) (ocn _) ?_
 refine Jz 10 ?_
 refine Er (Dl (Cu (Df (Du (Vk (.inl rfl) results225 rfl rfl rfl ?_)))))
 subst hrs
 exact⟨rfl,rfl⟩
 refine Jz 6 ?_
 refine Jcp rfl ?_ ?_<;>intro k84
 refine Js (Jfw [] [1,2,5,104,106,307,100,103,308,9,10,11,12,13,14] (ocn _) ?_)
 refine Jz 5 ?_
 refine Fw.qf (bX σ hσ e.name (htb om)) (ocs (oca 3 rfl) (ocs (oca 4 rfl) (ocn _))) ?_
 refine Jz 2 ?_
 refine Fw.qf (Xb σ e.name rs) (ocn _) ?_
 refine Jz 10 ?_
 refine Er (Dl (Cu (Df (Du (Vk (.inl rfl) results225 rfl rfl rfl ?_)))))
 subst hrs
 exact⟨rfl,rfl⟩
 refine Jz 11 ?_
 refine Er (Dl (Cu (Df (Du (Vk (.inl rfl) results225 rfl rfl rfl ?_)))))
 subst hrs
 exact⟨rfl,rfl⟩
theorem nH(σ:Scp)(hσ:σ.Low):∀e:Ex,∀t:Nat,e.pure.low→e.pure.Ty σ t→Dz 225 [.agg #[vs σ.Af σ.flags σ.qf,vs σ.Av σ.vars σ.qv,vs σ.Ap σ.ps σ.qp], .agg (Bw e).toArray] [all (e.kids Bw),ros Gx σ.Af σ.flags,ros Iy σ.Av σ.vars,ros encZ σ.Ap σ.ps] (fun v Γ'=>v= .tuple #[.int .u8 ((t:Nat):Int), .string nE,iv 0]∧Γ'=[])
 | e,t,h1,h2=>by
   obtain⟨u,a,b,c⟩:=MM h2
   exact uL σ hσ e t u (fun x hx=>nH σ hσ x) (Tw h1).2 (Un fun x hx=>by rw[Bz]at hx;obtain⟨y,hy,rfl⟩:=aEv.1 hx;exact Qf h1 hy) a b c
termination_by e=>SizeOf.sizeOf e
decreasing_by
 cases e with
 | mk op s n A q l=>
   have:=aFq (show x∈l from hx)
   simp only[Ex.mk.sizeOf_spec]
   omega
end Go.Proofs.YtlihklladkagpaaGreatDoor

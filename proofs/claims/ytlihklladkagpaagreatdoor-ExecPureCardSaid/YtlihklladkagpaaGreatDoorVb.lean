/- Own text. -/
import Derived.Test.YtlihklladkagpaaGreatDoorVa
set_option linter.unusedVariables false
set_option linter.unusedSimpArgs false
set_option maxHeartbeats 2000000
set_option maxRecDepth 100000
namespace Go.Proofs.YtlihklladkagpaaGreatDoor
open Go.Proofs.Tryz
open Go.RowKit Go.Flow Go.Mem Go.Sep Go.In
structure Scp where
 Af:OA
 qf:Nat
 flags:List Fg
 Av:OA
 qv:Nat
 vars:List Vr
 Ap:OA
 qp:Nat
 ps:List ByteArray
abbrev jS(b:Nat)(S:Scp)(r:List Value):List Value:=pv b::vs S.Af S.flags S.qf::vs S.Av S.vars S.qv::vs S.Ap S.ps S.qp::r
def fdV(l:List Vr)(s:ByteArray):Option Vr:=l.find? (fun x:Vr=>decide (x.name=s))
def fdC(l:List Cm)(s:ByteArray):Option Cm:=l.find? (fun x:Cm=>decide (x.name=s))
structure Scp.Low(σ:Scp):Prop where
 f:σ.flags.length≤2
 v:σ.vars.length≤5
 p:σ.ps.length≤2
def Scp.Nm(σ:Scp)(s:ByteArray)(t:Nat):Prop:=((ixF s 0 σ.ps).isSome=true∧t=1)∨((ixF s 0 σ.ps).isSome=false∧∃v,fdV σ.vars s=some v∧v.ty≠3∧t=v.ty)∨((ixF s 0 σ.ps).isSome=false∧fdV σ.vars s=none∧(ixF s 0 (σ.flags.map Fg.name)).isSome=true∧t=2)
def Scp.Ch(σ:Scp)(s:ByteArray)(t:Nat):Prop:=(ixF s 0 σ.ps).isSome=false∧∃v,fdV σ.vars s=some v∧v.ty=t
structure OpT(σ:Scp)(o:Nat)(s:ByteArray)(u t:Nat):Prop where
 ar:1≤o∧o≤23∧u≤2∧t≤2∧(o=1∨o=4→t=1)∧(o=2∨o=3→t=2)∧(o=8→t=1)∧(o=16∨o=17→t=2)∧(o=10∨o=22∨o=23→u=2∧t=2)∧(18≤o∧o≤21→u=1∧t=2)∧(o=7→u=1∧t=2)∧(o=6∨o=9∨11≤o∧o≤15→u=1∧t=1)
 nm:o=5→σ.Nm s t
 tb:o=6∨o=7∨o=8→σ.Ch s 3
mutual
def PE.Ty(σ:Scp):PE→Nat→Prop
 |⟨o,s,_,l⟩,t=>∃u,PE.TyL σ l u∧(l.length=0→u=0)∧OpT σ o s u t
def PE.TyL(σ:Scp):List PE→Nat→Prop
 |[],_=>True
 |e::r,u=>PE.Ty σ e u∧PE.TyL σ r u
end
theorem PE.TyL_mem{σ:Scp}:∀{l:List PE} {u:Nat},PE.TyL σ l u→∀x∈l,x.Ty σ u
 |[],_,_,x,h=>by cases h
 | e::r,u,h,x,hx=>by
   rcases List.mem_cons.1 hx with rfl|hx
   ·exact h.1
   ·exact PE.TyL_mem h.2 x hx
theorem PE.TyL_of{σ:Scp}{u:Nat}:∀{l:List PE},(∀x∈l,x.Ty σ u)→PE.TyL σ l u
 |[],_=>trivial
 |e::r,h=>⟨h e (List.mem_cons_self ..),PE.TyL_of fun x hx=>h x (List.mem_cons_of_mem _ hx)⟩
theorem Ex.tyL_at{σ:Scp}{u:Nat}{l:List Ex}(h:PE.TyL σ (Ex.pL l) u){x:Ex}(hx:x∈l):x.pure.Ty σ u:=PE.TyL_mem h x.pure (by rw[Ex.pureL_map];exact List.mem_map.2 ⟨x,hx,rfl⟩)
theorem Ex.ty_at{σ:Scp}{t:Nat}{e:Ex}(h:e.pure.Ty σ t):∃u,(PE.TyL σ (Ex.pL e.args) u)∧(e.args.length=0→u=0)∧OpT σ e.op e.name u t:=by
 rw[Ex.pure_eq]at h
 obtain⟨u,h1,h2,h3⟩:=h
 exact⟨u,h1,fun h=>h2 (by rw[Ex.pureL_map,List.length_map];exact h),h3⟩
theorem svar_fn(σ:Scp)(hσ:σ.Low)(s:ByteArray)(t:Nat)(h:σ.Ch s t):
    Dz 224 [.agg #[vs σ.Af σ.flags σ.qf,vs σ.Av σ.vars σ.qv,vs σ.Ap σ.ps σ.qp], .string s] [ros encVx σ.Av σ.vars,ros encZ σ.Ap σ.ps] (fun v Γ'=>∃w:Vr,v= .tuple #[.agg (encVx w).toArray, .bool true]∧Γ'=[]∧w.ty=t):=by
 refine Does.en func224 ntmps224 fun w0=>?_
 refine Js (To.g (Jbo fun b2=>?_))
 refine Jal fun b4=>?_
 refine Jz 9 ?_
 refine Jvf (contains_fn σ.Ap σ.qp σ.ps s _ (by have:=hσ.p;omega) rfl) rfl (ocs (oca 3 rfl) (ocn _)) ?_
 refine To.n (Jt (Jcond rfl (fun k9=>?_) (fun k9=>?_)))
 exact absurd (k9.symm.trans h.1) (by decide)
 refine Jz 7 ?_
 refine Jvf (fvar_fn σ.Av σ.qv σ.vars s _ (by have:=hσ.v;omega) rfl) rfl (ocs (oca 2 rfl) (ocn _)) ?_
 refine Jz 7 ?_
 refine JendCT [] rfl (.inl rfl) results224 rfl (i:=0) rfl r189 rfl rfl ?_
 obtain⟨_,w,hw,ht⟩:=h;rw[show List.find? (fun x:Vr=>decide (x.name=s)) σ.vars=some w from hw];exact⟨w,rfl,rfl,ht⟩
theorem sname_fn(σ:Scp)(hσ:σ.Low)(s:ByteArray)(t:Nat)(h:σ.Nm s t):
    Dz 230 [.agg #[vs σ.Af σ.flags σ.qf,vs σ.Av σ.vars σ.qv,vs σ.Ap σ.ps σ.qp], .string s] [ros encFg σ.Af σ.flags,ros encVx σ.Av σ.vars,ros encZ σ.Ap σ.ps] (fun v _=>v= .tuple #[.int .u8 ((t:Nat):Int), .int .i64 0]):=by
 refine Does.en func230 ntmps230 fun w0=>?_
 refine Js (To.g (Jbo fun b2=>?_))
 refine Jz 10 ?_
 refine Jvf (contains_fn σ.Ap σ.qp σ.ps s _ (by have:=hσ.p;omega) rfl) rfl (ocs (oca 3 rfl) (ocn _)) ?_
 refine To.n (Jt (Jcond rfl (fun k11=>?_) (fun k11=>?_)))
 refine Jz 8 ?_
 refine Jend2 (.inl rfl) results230 rfl rfl ?_
 unfold Scp.Nm fdV at h;generalize List.find? (fun x:Vr=>decide (x.name=s)) σ.vars=o2 at*;cases o2<;>simp_all<;>omega
 refine Jz 7 ?_
 refine Jvf (fvar_fn σ.Av σ.qv σ.vars s _ (by have:=hσ.v;omega) rfl) rfl (ocs (oca 2 rfl) (ocn _)) ?_
 refine Jz 3 ?_
 refine Jal fun b6=>?_
 refine Jz 9 ?_
 refine JgB ?_ ?_<;>intro g21
 refine Jz 7 ?_
 refine Jcp rfl ?_ ?_<;>intro k19
 refine Jz 9 ?_
 refine Jend2 (.inl rfl) results230 rfl rfl ?_
 unfold Scp.Nm fdV at h;generalize List.find? (fun x:Vr=>decide (x.name=s)) σ.vars=o2 at*;cases o2<;>simp_all<;>omega
 refine Jz 6 ?_
 refine Jcond rfl ?_ ?_<;>intro k26
 refine Jz 11 ?_
 refine Jend2 (.inl rfl) results230 rfl rfl ?_
 unfold Scp.Nm fdV at h;generalize List.find? (fun x:Vr=>decide (x.name=s)) σ.vars=o2 at*;cases o2<;>simp_all<;>omega
 refine Jz 5 ?_
 refine Jvf (fflag_fn σ.Af σ.qf σ.flags s _ (by have:=hσ.f;omega) rfl) rfl (ocs (oca 2 rfl) (ocn _)) ?_
 refine Jz 3 ?_
 refine Jcond rfl ?_ ?_<;>intro k30
 refine Jz 9 ?_
 refine Jend2 (.inl rfl) results230 rfl rfl ?_
 unfold Scp.Nm fdV at h;generalize List.find? (fun x:Vr=>decide (x.name=s)) σ.vars=o2 at*;cases o2<;>simp_all<;>omega
 refine Jz 10 ?_
 refine Jend2 (.inl rfl) results230 rfl rfl ?_
 unfold Scp.Nm fdV at h;generalize List.find? (fun x:Vr=>decide (x.name=s)) σ.vars=o2 at*;cases o2<;>simp_all<;>omega
 refine Jz 14 ?_
 refine Jcond rfl ?_ ?_<;>intro k26
 refine Jz 11 ?_
 refine Jend2 (.inl rfl) results230 rfl rfl ?_
 unfold Scp.Nm fdV at h;generalize List.find? (fun x:Vr=>decide (x.name=s)) σ.vars=o2 at*;cases o2<;>simp_all<;>omega
 refine Jz 5 ?_
 refine Jvf (fflag_fn σ.Af σ.qf σ.flags s _ (by have:=hσ.f;omega) rfl) rfl (ocs (oca 2 rfl) (ocn _)) ?_
 refine Jz 3 ?_
 refine Jcond rfl ?_ ?_<;>intro k30
 refine Jz 9 ?_
 refine Jend2 (.inl rfl) results230 rfl rfl ?_
 unfold Scp.Nm fdV at h;generalize List.find? (fun x:Vr=>decide (x.name=s)) σ.vars=o2 at*;cases o2<;>simp_all<;>omega
 refine Jz 10 ?_
 refine Jend2 (.inl rfl) results230 rfl rfl ?_
 unfold Scp.Nm fdV at h;generalize List.find? (fun x:Vr=>decide (x.name=s)) σ.vars=o2 at*;cases o2<;>simp_all<;>omega
theorem stable_fn(σ:Scp)(hσ:σ.Low)(s:ByteArray)(h:σ.Ch s 3):
    Dz 232 [.agg #[vs σ.Af σ.flags σ.qf,vs σ.Av σ.vars σ.qv,vs σ.Ap σ.ps σ.qp], .string s] [ros encVx σ.Av σ.vars,ros encZ σ.Ap σ.ps] (fun v _=>v= .int .i64 0):=by
 refine Does.en func232 ntmps232 fun w0=>?_
 refine Js (To.g (Jbo fun b2=>?_))
 refine Jz 7 ?_
 refine Jqf (svar_fn σ hσ s _ h) rfl (ocs (oca 1 rfl) (ocs (oca 2 rfl) (ocn _))) ?_
 rintro _ _ ⟨w,rfl,rfl,hw⟩
 refine⟨rfl,?_⟩
 refine Jz 3 ?_
 refine Jal fun b5=>?_
 refine Jz 18 ?_
 refine Jr (Rd.as (v':= .bool false) (congrArg Value.bool (decide_eq_false om)) (Rd.neq rfl rfl rfl)) ?_
 refine Jz 13 ?_
 refine Je1 results232 ?_
 rfl
theorem swrong_fn(σ:Scp)(s:ByteArray)(t:Nat):
    Dz 231 [.agg #[vs σ.Af σ.flags σ.qf,vs σ.Av σ.vars σ.qv,vs σ.Ap σ.ps σ.qp], .int .u8 ((t:Nat):Int), .string s, .int .i64 0] [] (fun v _=>v= .tuple #[.int .u8 ((t:Nat):Int), .string nE, .int .i64 0]):=by
 refine Does.en func231 ntmps231 fun w0=>?_
 refine Js (To.g (Jbo fun b4=>?_))
 refine Jz 24 ?_
 refine Jend3 (.inl rfl) results231 rfl rfl rfl ?_
 rfl
theorem alike_step(σ:Scp)(A:OA)(q:Nat)(l:List Ex)(u:Nat)(ih:∀x∈l,∀t:Nat,x.pure.low→x.pure.Ty σ t→Dz 225 [.agg #[vs σ.Af σ.flags σ.qf,vs σ.Av σ.vars σ.qv,vs σ.Ap σ.ps σ.qp], .agg (encX x).toArray] [all (x.kids encX),ros encFg σ.Af σ.flags,ros encVx σ.Av σ.vars,ros encZ σ.Ap σ.ps] (fun v Γ'=>v= .tuple #[.int .u8 ((t:Nat):Int), .string nE, .int .i64 0]∧Γ'=[]))(hl:l.length≤12)(hlow:PE.lowL (Ex.pL l))(hty:PE.TyL σ (Ex.pL l) u)(hu0:l.length=0→u=0):
    Dz 229 [.agg #[vs σ.Af σ.flags σ.qf,vs σ.Av σ.vars σ.qv,vs σ.Ap σ.ps σ.qp],vs A l q] [all (lsF encX A l),ros encFg σ.Af σ.flags,ros encVx σ.Av σ.vars,ros encZ σ.Ap σ.ps] (fun v Γ'=>v= .tuple #[.int .u8 ((u:Nat):Int), .string nE, .int .i64 0]∧Γ'=[]):=by
 refine Does.en func229 ntmps229 fun w0=>?_
 refine Js (To.g (Jbo fun b2=>?_))
 refine Jz 12 ?_
 refine To.one 1 rfl (ros encX A l) rfl (List.mem_cons_self ..) (Jz 7 ?_)
 refine To.loP (fun s g mz ρ Γ=>∃(tk:Nat) (k:Nat),ρ=[s 2,(4, .int .u8 ((tk:Nat):Int)),s 7,s 13,s 14,(15,nv k)]∧Γ=[g 1,g 0,g 2,g 3,g 4,g 5]∧mz=l.length-k∧(k≤l.length)∧(k=0→tk=0)∧(0<k→tk=u)) ⟨⟨0,0,rfl,rfl,rfl,om,(fun _=>rfl),(fun h=>absurd h (by decide))⟩,sb⟩ ?_
 rintro mz _ _ ⟨tk,k,rfl,rfl,rfl,hk,hk0,hk1⟩
 refine Jz 6 ?_
 refine Jcp rfl ?_ ?_<;>intro c16
 obtain⟨x,hx⟩:=exg l k om
 refine Jz 9 ?_
 refine Jal fun b9=>?_
 refine Jz 5 ?_
 refine Jpart 3 rfl (x.kids encX) (Ex.lax encX x) (ls_mem hx) (Jz 3 ?_)
 refine Jqf (ih x (mog hx) u (Ex.lowL_at hlow (mog hx)) (Ex.tyL_at hty (mog hx))) (by show owns (x.kids encX)++[]=[];rw[(Ex.lax encX x).owns];rfl) (ocs (oca 0 rfl) (ocs (oca 5 rfl) (ocs (oca 6 rfl) (ocs (oca 7 rfl) (ocn _))))) ?_
 rintro _ _ ⟨rfl,rfl⟩
 refine⟨rfl,?_⟩
 refine Jz 26 ?_
 refine Jcp rfl ?_ ?_<;>intro c32
 refine Jz 10 ?_
 refine Jr (Rd.as (v':= .bool true) (congrArg Value.bool (decide_eq_true om)) (Rd.eql rfl rfl rfl)) ?_
 refine Jz 10 ?_
 refine To.agP ⟨⟨u,k+1,rfl,rfl,rfl,om,(fun h=>by omega),(fun _=>by omega)⟩,sb⟩
 refine Jz 7 ?_
 refine Jr (Rd.as (v':= .bool true) (congrArg Value.bool (decide_eq_true om)) (Rd.eql rfl rfl rfl)) ?_
 refine Jz 10 ?_
 refine To.agP ⟨⟨tk,k+1,rfl,rfl,rfl,om,(fun h=>by omega),(fun _=>by omega)⟩,sb⟩
 refine Jz 24 ?_
 refine Jdel5 (Jdel4 (Jdel3 (Jdel2 (Jdel1 (Jdel0 (Jend3 (.inl rfl) results229 rfl rfl rfl ?_))))))
 obtain rfl:tk=u:=om
 exact⟨rfl,rfl⟩
theorem typeOf_step(σ:Scp)(hσ:σ.Low)(e:Ex)(τ u:Nat)(ih:∀x∈e.args,∀t:Nat,x.pure.low→x.pure.Ty σ t→Dz 225 [.agg #[vs σ.Af σ.flags σ.qf,vs σ.Av σ.vars σ.qv,vs σ.Ap σ.ps σ.qp], .agg (encX x).toArray] [all (x.kids encX),ros encFg σ.Af σ.flags,ros encVx σ.Av σ.vars,ros encZ σ.Ap σ.ps] (fun v Γ'=>v= .tuple #[.int .u8 ((t:Nat):Int), .string nE, .int .i64 0]∧Γ'=[]))(hal:e.args.length≤2)(hlA:PE.lowL (Ex.pL e.args))(hty:PE.TyL σ (Ex.pL e.args) u)(hu0:e.args.length=0→u=0)(hop:OpT σ e.op e.name u τ):
    Dz 225 [.agg #[vs σ.Af σ.flags σ.qf,vs σ.Av σ.vars σ.qv,vs σ.Ap σ.ps σ.qp], .agg (encX e).toArray] [all (e.kids encX),ros encFg σ.Af σ.flags,ros encVx σ.Av σ.vars,ros encZ σ.Ap σ.ps] (fun v Γ'=>v= .tuple #[.int .u8 ((τ:Nat):Int), .string nE, .int .i64 0]∧Γ'=[]):=by
 obtain⟨har,hnm,htb⟩:=hop
 refine Does.en func225 ntmps225 fun w0=>?_
 refine Js (To.g (Jbo fun b2=>?_))
 refine Jbo fun b3=>?_
 refine Jz 6 ?_
 refine Jpart 2 rfl (lsF encX e.A e.args) (lsF_lax _ _ _) (fun c hc=>by rw[Ex.kids_eq];exact hc) (Jz 4 ?_)
 refine Jqf (alike_step σ e.A e.q e.args u ih om hlA hty hu0) (by show owns (lsF encX e.A e.args)++[]=[];rw[(lsF_lax encX e.A e.args).owns];rfl) (ocs (oca 0 rfl) (ocs (oca 4 rfl) (ocs (oca 5 rfl) (ocs (oca 6 rfl) (ocn _))))) ?_
 rintro _ _ ⟨rfl,rfl⟩
 refine⟨rfl,?_⟩
 refine Jz 32 ?_
 refine JmeetC (T:=(Nat)×(Nat)) (fun t=>([(2,pv b2),(3,pv b3),(4, .int .u8 ((u:Nat):Int)),(7, .int .u8 (((t.1):Nat):Int)),(8, .int .u8 (((t.2):Nat):Int))],[box b2 [vs σ.Af σ.flags σ.qf,vs σ.Av σ.vars σ.qv,vs σ.Ap σ.ps σ.qp] 339,box b3 (encX e) 249,ros encFg σ.Af σ.flags,ros encVx σ.Av σ.vars,ros encZ σ.Ap σ.ps])) (fun t=>((t.1)=u)∧((t.2)=τ)) ?_ ?_
 refine Jz 8 ?_
 refine Jcp rfl ?_ ?_<;>intro k23
 refine Jsp (Jt (JcondT (congrArg (fun b=>some (Value.bool b)) (decide_eq_true k23)) (Jz 10 ?_)))
 refine Jdel6 (Jdel5 (Jdel4 (Jdel3 (Jdel2 (Jdel1 (Jdel0 (Jend3 (.inl rfl) results225 rfl rfl rfl ?_)))))))
 obtain rfl:τ=1:=om
 exact⟨rfl,rfl⟩
 refine Jz 5 ?_
 refine Jcp rfl ?_ ?_<;>intro k23_2
 refine Jz 10 ?_
 refine Jdel6 (Jdel5 (Jdel4 (Jdel3 (Jdel2 (Jdel1 (Jdel0 (Jend3 (.inl rfl) results225 rfl rfl rfl ?_)))))))
 obtain rfl:τ=1:=om
 exact⟨rfl,rfl⟩
 refine Jz 7 ?_
 refine Jcp rfl ?_ ?_<;>intro k26
 refine Jsp (Jt (JcondT (congrArg (fun b=>some (Value.bool b)) (decide_eq_true k26)) (Jz 10 ?_)))
 refine Jdel6 (Jdel5 (Jdel4 (Jdel3 (Jdel2 (Jdel1 (Jdel0 (Jend3 (.inl rfl) results225 rfl rfl rfl ?_)))))))
 obtain rfl:τ=2:=om
 exact⟨rfl,rfl⟩
 refine Jz 5 ?_
 refine Jcp rfl ?_ ?_<;>intro k26_2
 refine Jz 10 ?_
 refine Jdel6 (Jdel5 (Jdel4 (Jdel3 (Jdel2 (Jdel1 (Jdel0 (Jend3 (.inl rfl) results225 rfl rfl rfl ?_)))))))
 obtain rfl:τ=2:=om
 exact⟨rfl,rfl⟩
 refine Jz 6 ?_
 refine Jcp rfl ?_ ?_<;>intro k29
 refine Jz 5 ?_
 refine Jvf (sname_fn σ hσ e.name τ (hnm om)) rfl (ocs (oca 4 rfl) (ocs (oca 5 rfl) (ocs (oca 6 rfl) (ocn _)))) ?_
 refine Jz 14 ?_
 refine Jvf (swrong_fn σ e.name τ) rfl (ocn _) ?_
 refine Jz 11 ?_
 refine Jdel6 (Jdel5 (Jdel4 (Jdel3 (Jdel2 (Jdel1 (Jdel0 (Jend3 (.inl rfl) results225 rfl rfl rfl ?_)))))))
 exact⟨rfl,rfl⟩
 refine Jz 6 ?_
 refine Jcp rfl ?_ ?_<;>intro k47
 refine Js (Jfw [] [1,4,103,105,306,100,102,307,8,9,10,11,12,13] (ocn _) ?_)
 refine Jz 4 ?_
 refine Fw.qf (stable_fn σ hσ e.name (htb om)) (ocs (oca 5 rfl) (ocs (oca 6 rfl) (ocn _))) ?_
 refine Jz 2 ?_
 refine Fw.qf (swrong_fn σ e.name 1) (ocn _) ?_
 refine Jz 11 ?_
 refine Jdel6 (Jdel5 (Jdel4 (Jdel3 (Jdel2 (Jdel1 (Jdel0 (Jend3 (.inl rfl) results225 rfl rfl rfl ?_)))))))
 obtain rfl:τ=1:=om
 exact⟨rfl,rfl⟩
 refine Jz 7 ?_
 refine Jcp rfl ?_ ?_<;>intro k60
 refine Jsp (Jt (JcondT (congrArg (fun b=>some (Value.bool b)) (decide_eq_true k60)) (Jz 7 ?_)))
 refine To.hP (u,2) ⟨om,om⟩
 refine Jz 5 ?_
 refine Jcp rfl ?_ ?_<;>intro k60_2
 refine Jz 7 ?_
 refine To.hP (u,2) ⟨om,om⟩
 refine Jz 7 ?_
 refine Jcp rfl ?_ ?_<;>intro k64
 refine Jsp (Jt (JcondT (congrArg (fun b=>some (Value.bool b)) (decide_eq_true k64)) (Jz 6 ?_)))
 refine To.hP (2,2) ⟨om,om⟩
 refine Jz 6 ?_
 refine Jcp rfl ?_ ?_<;>intro k64_2
 refine Jsp (Jt (JcondT (congrArg (fun b=>some (Value.bool b)) (decide_eq_true k64_2)) (Jz 6 ?_)))
 refine To.hP (2,2) ⟨om,om⟩
 refine Jz 5 ?_
 refine Jcp rfl ?_ ?_<;>intro k64_3
 refine Jz 6 ?_
 refine To.hP (2,2) ⟨om,om⟩
 refine Jz 7 ?_
 refine Jcp rfl ?_ ?_<;>intro k68
 refine Jsp (Jt (JcondT (congrArg (fun b=>some (Value.bool b)) (decide_eq_true k68)) (Jz 5 ?_)))
 refine To.hP (1,2) ⟨om,om⟩
 refine Jz 6 ?_
 refine Jcp rfl ?_ ?_<;>intro k68_2
 refine Jsp (Jt (JcondT (congrArg (fun b=>some (Value.bool b)) (decide_eq_true k68_2)) (Jz 5 ?_)))
 refine To.hP (1,2) ⟨om,om⟩
 refine Jz 6 ?_
 refine Jcp rfl ?_ ?_<;>intro k68_3
 refine Jsp (Jt (JcondT (congrArg (fun b=>some (Value.bool b)) (decide_eq_true k68_3)) (Jz 5 ?_)))
 refine To.hP (1,2) ⟨om,om⟩
 refine Jz 6 ?_
 refine Jcp rfl ?_ ?_<;>intro k68_4
 refine Jsp (Jt (JcondT (congrArg (fun b=>some (Value.bool b)) (decide_eq_true k68_4)) (Jz 5 ?_)))
 refine To.hP (1,2) ⟨om,om⟩
 refine Jz 5 ?_
 refine Jcp rfl ?_ ?_<;>intro k68_5
 refine Jz 5 ?_
 refine To.hP (1,2) ⟨om,om⟩
 refine Jz 3 ?_
 refine To.hP (1,1) ⟨om,om⟩
 rintro⟨nd,rs⟩ ⟨hnd,hrs⟩
 replace hnd:nd=u:=hnd
 replace hrs:rs=τ:=hrs
 dsimp only
 refine Jz 5 ?_
 refine Jr (Rd.as (v':= .bool false) (congrArg Value.bool (decide_eq_false om)) (Rd.neq rfl rfl rfl)) ?_
 refine Jz 11 ?_
 refine JgP ?_ ?_<;>intro g80
 refine Jz 8 ?_
 refine Jfw [] [1,2,5,104,106,307,100,103,308,9,10,11,12,13,14] (ocn _) ?_
 refine Jz 5 ?_
 refine Fw.qf (stable_fn σ hσ e.name (htb om)) (ocs (oca 3 rfl) (ocs (oca 4 rfl) (ocn _))) ?_
 refine Jz 2 ?_
 refine Fw.qf (swrong_fn σ e.name rs) (ocn _) ?_
 refine Jz 10 ?_
 refine Jdel4 (Jdel3 (Jdel2 (Jdel1 (Jdel0 (Jend3 (.inl rfl) results225 rfl rfl rfl ?_)))))
 subst hrs
 exact⟨rfl,rfl⟩
 refine Jz 6 ?_
 refine Jcp rfl ?_ ?_<;>intro k84
 refine Js (Jfw [] [1,2,5,104,106,307,100,103,308,9,10,11,12,13,14] (ocn _) ?_)
 refine Jz 5 ?_
 refine Fw.qf (stable_fn σ hσ e.name (htb om)) (ocs (oca 3 rfl) (ocs (oca 4 rfl) (ocn _))) ?_
 refine Jz 2 ?_
 refine Fw.qf (swrong_fn σ e.name rs) (ocn _) ?_
 refine Jz 10 ?_
 refine Jdel4 (Jdel3 (Jdel2 (Jdel1 (Jdel0 (Jend3 (.inl rfl) results225 rfl rfl rfl ?_)))))
 subst hrs
 exact⟨rfl,rfl⟩
 refine Jz 11 ?_
 refine Jdel4 (Jdel3 (Jdel2 (Jdel1 (Jdel0 (Jend3 (.inl rfl) results225 rfl rfl rfl ?_)))))
 subst hrs
 exact⟨rfl,rfl⟩
theorem typeOf_fn(σ:Scp)(hσ:σ.Low):∀e:Ex,∀t:Nat,e.pure.low→e.pure.Ty σ t→Dz 225 [.agg #[vs σ.Af σ.flags σ.qf,vs σ.Av σ.vars σ.qv,vs σ.Ap σ.ps σ.qp], .agg (encX e).toArray] [all (e.kids encX),ros encFg σ.Af σ.flags,ros encVx σ.Av σ.vars,ros encZ σ.Ap σ.ps] (fun v Γ'=>v= .tuple #[.int .u8 ((t:Nat):Int), .string nE, .int .i64 0]∧Γ'=[])
 | e,t,h1,h2=>by
   obtain⟨u,a,b,c⟩:=Ex.ty_at h2
   exact typeOf_step σ hσ e t u (fun x hx=>typeOf_fn σ hσ x) (Ex.low_op h1).2 (PE.lowL_of fun x hx=>by rw[Ex.pureL_map]at hx;obtain⟨y,hy,rfl⟩:=List.mem_map.1 hx;exact Ex.low_mem h1 hy) a b c
termination_by e=>SizeOf.sizeOf e
decreasing_by
 cases e with
 | mk op s n A q l=>
   have:=List.sizeOf_lt_of_mem (show x∈l from hx)
   simp only[Ex.mk.sizeOf_spec]
   omega
end Go.Proofs.YtlihklladkagpaaGreatDoor

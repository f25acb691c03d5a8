/- Own text. -/
import Derived.Test.YtlihklladkagpaaGreatDoorXf
set_option linter.unusedVariables false
set_option linter.unusedSimpArgs false
set_option maxHeartbeats 2000000
set_option maxRecDepth 100000
namespace Go.Proofs.YtlihklladkagpaaGreatDoor
open Go.Proofs.Tryz
open Go.RowKit Go.Flow Go.Mem Go.Sep
theorem stepV_send{s:Sm}{x:Ins}{d:Dv}(h:((x.op:Nat):Int)=30∨((x.op:Nat):Int)=31):stepV s x d=sendV x d:=by
 unfold stepV
 rw[if_neg om,if_neg om,if_neg om,if_neg om,if_neg om,if_neg om,if_neg om,if_neg om,if_neg om,if_neg om,if_pos h]
theorem stepV_disk{s:Sm}{x:Ins}{d:Dv}(h:((x.op:Nat):Int)=32∨((x.op:Nat):Int)=33):stepV s x d=diskV s x d:=by
 unfold stepV
 rw[if_neg om,if_neg om,if_neg om,if_neg om,if_neg om,if_neg om,if_neg om,if_neg om,if_neg om,if_neg om,if_neg om,if_pos h]
theorem stepV_table{s:Sm}{x:Ins}{d:Dv}(h:((x.op:Nat):Int)=6∨((x.op:Nat):Int)=7∨((x.op:Nat):Int)=8∨((x.op:Nat):Int)=25∨((x.op:Nat):Int)=26):stepV s x d=tableV x d:=by
 unfold stepV
 rw[if_neg om,if_neg om,if_neg om,if_neg om,if_neg om,if_neg om,if_neg om,if_neg om,if_neg om,if_neg om,if_neg om,if_neg om,if_neg om,if_pos h]
theorem Does.framed{P:Program}{f:FuncId}{args:List Value}{Γ Γ1 Δ:List Chunk}{R:Value→List Chunk→Prop}{is:List Nat}(h:Does P f args Γ1 R)(hp:pull Γ is=some (Γ1,Δ)):Does P f args Γ (fun v Γ'=>∃Γ1',R v Γ1'∧Γ'=Γ1'++Δ):=fun w hs=>
 (h w ((hs.perm (pull_perm hp)).left)).mono fun _ _ ⟨v,Γ',h1,h2,h3⟩=>⟨v,Γ'++Δ,h1,⟨Γ',h2,rfl⟩,Post.at_ hp hs h3⟩
theorem Does.turned{P:Program}{f:FuncId}{args:List Value}{Γ:List Chunk}{R R':Value→List Chunk→Prop}(h:Does P f args Γ R)(hr:∀v Γ',R v Γ'→∃Γ'' Δ,R' v Γ''∧Γ'.Perm (Γ''++Δ)):Does P f args Γ R':=fun w hs=>
 (h w hs).mono fun _ _ ⟨v,Γ',h1,h2,h3⟩=>by
  obtain⟨Γ'',Δ,h4,h5⟩:=hr v Γ' h2
  exact⟨v,Γ'',h1,h4,(h3.perm h5).drop⟩
theorem step1_fn(b:Nat)(s:Sm)(d:Dm)(x:Ins)(hop:((x.op:Nat):Int)=6∨((x.op:Nat):Int)=7∨((x.op:Nat):Int)=8∨((x.op:Nat):Int)=25∨((x.op:Nat):Int)=26∨((x.op:Nat):Int)=30∨((x.op:Nat):Int)=31∨((x.op:Nat):Int)=32∨((x.op:Nat):Int)=33)(hf:Fit s x d.val)(ho:Okv s d.val)(hc:capsD d):
    Dz 63 [pv b, .agg (Ins.cells x).toArray] [box b [vs d.Av d.vars d.qv,vs d.At d.tabs d.qt,vs d.dk.A d.dk.l d.dk.q,vs d.Ae d.effs d.qe, .int .i64 d.cost,vs s.Ac s.code s.qc,vs s.Aa s.args s.qa, .int .i64 s.now,vs s.Ag s.flags s.qg, .int .i64 s.dsk,vs s.Af s.fail s.qf,vs d.As d.stack d.qs, .int .i64 d.next, .int .i64 d.sends, .int .i64 d.disks, .bool d.fault] 123,rows encI 2 1 d.Av d.qv d.vars,rows Tb.cells 54 1 d.At d.qt d.tabs,rosS encEn (d.tabs.map Tb.ar),ros encEn d.dk.A d.dk.l,rows Ef.cells 86 8 d.Ae d.qe d.effs,all (efK d.effs),rows encI 2 1 d.As d.qs d.stack,ros encI s.Aa s.args,ros encB s.Ag s.flags,ros encI s.Af s.fail] (fun v Γ'=>v= .tuple #[]∧∃d':Dm,Γ'=[box b [vs d'.Av d'.vars d'.qv,vs d'.At d'.tabs d'.qt,vs d'.dk.A d'.dk.l d'.dk.q,vs d'.Ae d'.effs d'.qe, .int .i64 d'.cost,vs s.Ac s.code s.qc,vs s.Aa s.args s.qa, .int .i64 s.now,vs s.Ag s.flags s.qg, .int .i64 s.dsk,vs s.Af s.fail s.qf,vs d'.As d'.stack d'.qs, .int .i64 d'.next, .int .i64 d'.sends, .int .i64 d'.disks, .bool d'.fault] 123,rows encI 2 1 d'.Av d'.qv d'.vars,rows Tb.cells 54 1 d'.At d'.qt d'.tabs,rosS encEn (d'.tabs.map Tb.ar),ros encEn d'.dk.A d'.dk.l,rows Ef.cells 86 8 d'.Ae d'.qe d'.effs,all (efK d'.effs),rows encI 2 1 d'.As d'.qs d'.stack]∧d'.val=stepV s x d.val∧capsD d'):=by
 have htb:((x.op:Nat):Int)=6∨((x.op:Nat):Int)=7∨((x.op:Nat):Int)=8∨((x.op:Nat):Int)=25∨((x.op:Nat):Int)=26→0≤x.a∧x.a<((d.tabs.length:Nat):Int):=fun h=>by
  have:=hf.tab h
  have e:d.val.tabs.length=d.tabs.length:=by show(d.tabs.map Tb.l).length=_;rw[List.length_map]
  rw[e]at this;exact this
 refine Does.en func63 ntmps63 fun w0=>?_
 refine Js (To.g (Jbo fun b3=>?_))
 refine Jz 15 ?_
 refine Jcp rfl ?_ ?_<;>intro k25
 exfalso;omega
 refine Jz 6 ?_
 refine Jcp rfl ?_ ?_<;>intro k31
 exfalso;omega
 refine Jz 6 ?_
 refine Jcp rfl ?_ ?_<;>intro k45
 exfalso;omega
 refine Jz 6 ?_
 refine Jcp rfl ?_ ?_<;>intro k58
 exfalso;omega
 refine Jz 6 ?_
 refine Jcp rfl ?_ ?_<;>intro k72
 exfalso;omega
 refine Jz 7 ?_
 refine Jcp rfl ?_ ?_<;>intro k81
 exfalso;omega
 refine Jz 5 ?_
 refine Jcp rfl ?_ ?_<;>intro k81_2
 exfalso;omega
 refine Jz 6 ?_
 refine Jcp rfl ?_ ?_<;>intro k95
 exfalso;omega
 refine Jz 6 ?_
 refine Jcp rfl ?_ ?_<;>intro k108
 exfalso;omega
 refine Jz 6 ?_
 refine Jcp rfl ?_ ?_<;>intro k115
 exfalso;omega
 refine Jz 6 ?_
 refine Jcp rfl ?_ ?_<;>intro k125
 exfalso;omega
 refine Jz 7 ?_
 refine Jcp rfl ?_ ?_<;>intro k147
 refine Jsp (Jt (JcondT (congrArg (fun b=>some (Value.bool b)) (decide_eq_true k147)) (Jz 3 ?_)))
 refine Jcf [1,1,1,1,1,1,1,1] (send_fn b s d x om hf ho hc) ?_
 rintro _ _ ⟨rfl,d',rfl,hv,hcap⟩
 refine To.n (Jbn (Jdel11 (Jdel10 (Jdel9 (Jdel8 (Jend0 (.inr rfl) results63 ?_))))))
 exact⟨rfl,d',rfl,by rw[hv];exact(stepV_send om).symm,hcap⟩
 refine Jz 5 ?_
 refine Jcp rfl ?_ ?_<;>intro k147_2
 refine Jz 3 ?_
 refine Jcf [1,1,1,1,1,1,1,1] (send_fn b s d x om hf ho hc) ?_
 rintro _ _ ⟨rfl,d',rfl,hv,hcap⟩
 refine To.n (Jbn (Jdel11 (Jdel10 (Jdel9 (Jdel8 (Jend0 (.inr rfl) results63 ?_))))))
 exact⟨rfl,d',rfl,by rw[hv];exact(stepV_send om).symm,hcap⟩
 refine Jz 7 ?_
 refine Jcp rfl ?_ ?_<;>intro k153
 refine Jsp (Jt (JcondT (congrArg (fun b=>some (Value.bool b)) (decide_eq_true k153)) (Jz 3 ?_)))
 refine Jcf [1,1,1,1,1,1,1,1,3] (disk_fn b s d x om hf ho hc) ?_
 rintro _ _ ⟨rfl,d',rfl,hv,hcap⟩
 refine To.n (Jbn (Jdel10 (Jdel9 (Jdel8 (Jend0 (.inr rfl) results63 ?_)))))
 exact⟨rfl,d',rfl,by rw[hv];exact(stepV_disk om).symm,hcap⟩
 refine Jz 5 ?_
 refine Jcp rfl ?_ ?_<;>intro k153_2
 refine Jz 3 ?_
 refine Jcf [1,1,1,1,1,1,1,1,3] (disk_fn b s d x om hf ho hc) ?_
 rintro _ _ ⟨rfl,d',rfl,hv,hcap⟩
 refine To.n (Jbn (Jdel10 (Jdel9 (Jdel8 (Jend0 (.inr rfl) results63 ?_)))))
 exact⟨rfl,d',rfl,by rw[hv];exact(stepV_disk om).symm,hcap⟩
 refine Jz 6 ?_
 refine Jcp rfl ?_ ?_<;>intro k159
 exfalso;omega
 refine Jz 7 ?_
 refine Jcp rfl ?_ ?_<;>intro k169
 refine Jsp (Jt (JcondT (congrArg (fun b=>some (Value.bool b)) (decide_eq_true k169)) ?_))
 obtain⟨ka,hka⟩:∃ka:Nat,x.a=((ka:Nat):Int):=⟨x.a.toNat,by have:=htb om;omega⟩
 have hkl:ka<d.tabs.length:=by have:=htb om;omega
 obtain⟨t,ht⟩:=exg d.tabs ka om
 refine Jfw [] [0,1,3,4,5,6,7,9,102,108,110,111,512] (ocn _) ?_
 refine Jz 11 ?_
 refine Fw.r rfl (Rd.indexRowsI (i:=3) (j:=ka) rfl rfl rfl hka s51 rfl ht) ?_
 refine Fw.cf [1,1,1,1,1,1,1,1] (table_fn b s d x ka t ht hka om hf ho hc) ?_
 rintro _ _ ⟨rfl,d',rfl,hv,hcap⟩
 refine⟨ocn _,?_⟩
 refine Jz 2 ?_
 refine Jdel11 (Jdel10 (Jdel9 (Jdel8 (Jend0 (.inr rfl) results63 ?_))))
 exact⟨rfl,d',rfl,by rw[hv];exact(stepV_table om).symm,hcap⟩
 refine Jz 6 ?_
 refine Jcp rfl ?_ ?_<;>intro k169_2
 refine Jsp (Jt (JcondT (congrArg (fun b=>some (Value.bool b)) (decide_eq_true k169_2)) ?_))
 obtain⟨ka,hka⟩:∃ka:Nat,x.a=((ka:Nat):Int):=⟨x.a.toNat,by have:=htb om;omega⟩
 have hkl:ka<d.tabs.length:=by have:=htb om;omega
 obtain⟨t,ht⟩:=exg d.tabs ka om
 refine Jfw [] [0,1,3,4,5,6,7,9,102,108,110,111,512] (ocn _) ?_
 refine Jz 11 ?_
 refine Fw.r rfl (Rd.indexRowsI (i:=3) (j:=ka) rfl rfl rfl hka s51 rfl ht) ?_
 refine Fw.cf [1,1,1,1,1,1,1,1] (table_fn b s d x ka t ht hka om hf ho hc) ?_
 rintro _ _ ⟨rfl,d',rfl,hv,hcap⟩
 refine⟨ocn _,?_⟩
 refine Jz 2 ?_
 refine Jdel11 (Jdel10 (Jdel9 (Jdel8 (Jend0 (.inr rfl) results63 ?_))))
 exact⟨rfl,d',rfl,by rw[hv];exact(stepV_table om).symm,hcap⟩
 refine Jz 6 ?_
 refine Jcp rfl ?_ ?_<;>intro k169_3
 refine Jsp (Jt (JcondT (congrArg (fun b=>some (Value.bool b)) (decide_eq_true k169_3)) ?_))
 obtain⟨ka,hka⟩:∃ka:Nat,x.a=((ka:Nat):Int):=⟨x.a.toNat,by have:=htb om;omega⟩
 have hkl:ka<d.tabs.length:=by have:=htb om;omega
 obtain⟨t,ht⟩:=exg d.tabs ka om
 refine Jfw [] [0,1,3,4,5,6,7,9,102,108,110,111,512] (ocn _) ?_
 refine Jz 11 ?_
 refine Fw.r rfl (Rd.indexRowsI (i:=3) (j:=ka) rfl rfl rfl hka s51 rfl ht) ?_
 refine Fw.cf [1,1,1,1,1,1,1,1] (table_fn b s d x ka t ht hka om hf ho hc) ?_
 rintro _ _ ⟨rfl,d',rfl,hv,hcap⟩
 refine⟨ocn _,?_⟩
 refine Jz 2 ?_
 refine Jdel11 (Jdel10 (Jdel9 (Jdel8 (Jend0 (.inr rfl) results63 ?_))))
 exact⟨rfl,d',rfl,by rw[hv];exact(stepV_table om).symm,hcap⟩
 refine Jz 6 ?_
 refine Jcp rfl ?_ ?_<;>intro k169_4
 refine Jsp (Jt (JcondT (congrArg (fun b=>some (Value.bool b)) (decide_eq_true k169_4)) ?_))
 obtain⟨ka,hka⟩:∃ka:Nat,x.a=((ka:Nat):Int):=⟨x.a.toNat,by have:=htb om;omega⟩
 have hkl:ka<d.tabs.length:=by have:=htb om;omega
 obtain⟨t,ht⟩:=exg d.tabs ka om
 refine Jfw [] [0,1,3,4,5,6,7,9,102,108,110,111,512] (ocn _) ?_
 refine Jz 11 ?_
 refine Fw.r rfl (Rd.indexRowsI (i:=3) (j:=ka) rfl rfl rfl hka s51 rfl ht) ?_
 refine Fw.cf [1,1,1,1,1,1,1,1] (table_fn b s d x ka t ht hka om hf ho hc) ?_
 rintro _ _ ⟨rfl,d',rfl,hv,hcap⟩
 refine⟨ocn _,?_⟩
 refine Jz 2 ?_
 refine Jdel11 (Jdel10 (Jdel9 (Jdel8 (Jend0 (.inr rfl) results63 ?_))))
 exact⟨rfl,d',rfl,by rw[hv];exact(stepV_table om).symm,hcap⟩
 refine Jz 5 ?_
 refine Jcp rfl ?_ ?_<;>intro k169_5
 obtain⟨ka,hka⟩:∃ka:Nat,x.a=((ka:Nat):Int):=⟨x.a.toNat,by have:=htb om;omega⟩
 have hkl:ka<d.tabs.length:=by have:=htb om;omega
 obtain⟨t,ht⟩:=exg d.tabs ka om
 refine Jfw [] [0,1,3,4,5,6,7,9,102,108,110,111,512] (ocn _) ?_
 refine Jz 11 ?_
 refine Fw.r rfl (Rd.indexRowsI (i:=3) (j:=ka) rfl rfl rfl hka s51 rfl ht) ?_
 refine Fw.cf [1,1,1,1,1,1,1,1] (table_fn b s d x ka t ht hka om hf ho hc) ?_
 rintro _ _ ⟨rfl,d',rfl,hv,hcap⟩
 refine⟨ocn _,?_⟩
 refine Jz 2 ?_
 refine Jdel11 (Jdel10 (Jdel9 (Jdel8 (Jend0 (.inr rfl) results63 ?_))))
 exact⟨rfl,d',rfl,by rw[hv];exact(stepV_table om).symm,hcap⟩
 exfalso;omega
theorem step_fn(b:Nat)(s:Sm)(d:Dm)(x:Ins)(hf:Fit s x d.val)(ho:Okv s d.val)(hc:capsD d):
    Dz 63 [pv b, .agg x.cells.toArray] [box b [vs d.Av d.vars d.qv,vs d.At d.tabs d.qt,vs d.dk.A d.dk.l d.dk.q,vs d.Ae d.effs d.qe, .int .i64 d.cost,vs s.Ac s.code s.qc,vs s.Aa s.args s.qa, .int .i64 s.now,vs s.Ag s.flags s.qg, .int .i64 s.dsk,vs s.Af s.fail s.qf,vs d.As d.stack d.qs, .int .i64 d.next, .int .i64 d.sends, .int .i64 d.disks, .bool d.fault] 123,rows encI 2 1 d.Av d.qv d.vars,rows Tb.cells 54 1 d.At d.qt d.tabs,rosS encEn (d.tabs.map Tb.ar),ros encEn d.dk.A d.dk.l,rows Ef.cells 86 8 d.Ae d.qe d.effs,all (efK d.effs),rows encI 2 1 d.As d.qs d.stack,ros encI s.Aa s.args,ros encB s.Ag s.flags,ros encI s.Af s.fail] (fun v Γ'=>v= .tuple #[]∧∃d':Dm,Γ'=[box b [vs d'.Av d'.vars d'.qv,vs d'.At d'.tabs d'.qt,vs d'.dk.A d'.dk.l d'.dk.q,vs d'.Ae d'.effs d'.qe, .int .i64 d'.cost,vs s.Ac s.code s.qc,vs s.Aa s.args s.qa, .int .i64 s.now,vs s.Ag s.flags s.qg, .int .i64 s.dsk,vs s.Af s.fail s.qf,vs d'.As d'.stack d'.qs, .int .i64 d'.next, .int .i64 d'.sends, .int .i64 d'.disks, .bool d'.fault] 123,rows encI 2 1 d'.Av d'.qv d'.vars,rows Tb.cells 54 1 d'.At d'.qt d'.tabs,rosS encEn (d'.tabs.map Tb.ar),ros encEn d'.dk.A d'.dk.l,rows Ef.cells 86 8 d'.Ae d'.qe d'.effs,all (efK d'.effs),rows encI 2 1 d'.As d'.qs d'.stack]∧d'.val=stepV s x d.val∧capsD d'):=by
 by_cases hop:((x.op:Nat):Int)=6∨((x.op:Nat):Int)=7∨((x.op:Nat):Int)=8∨((x.op:Nat):Int)=25∨((x.op:Nat):Int)=26∨((x.op:Nat):Int)=30∨((x.op:Nat):Int)=31∨((x.op:Nat):Int)=32∨((x.op:Nat):Int)=33
 ·exact step1_fn b s d x hop hf ho hc
 · refine Does.turned (Does.framed (is:=[0,0,5,5,5]) (Δ:=[rows Tb.cells 54 1 d.At d.qt d.tabs,rosS encEn (d.tabs.map Tb.ar),ros encEn d.dk.A d.dk.l,rows Ef.cells 86 8 d.Ae d.qe d.effs,all (efK d.effs),ros encI s.Af s.fail]) (step0_fn b s d x hf om) rfl) fun v Γ' h=>?_
   obtain⟨_,⟨rfl,d',rfl,⟨k1,k2,k3,k4,k5,k6,k7⟩,hv⟩,rfl⟩:=h
   refine⟨[box b [vs d'.Av d'.vars d'.qv,vs d'.At d'.tabs d'.qt,vs d'.dk.A d'.dk.l d'.dk.q,vs d'.Ae d'.effs d'.qe, .int .i64 d'.cost,vs s.Ac s.code s.qc,vs s.Aa s.args s.qa, .int .i64 s.now,vs s.Ag s.flags s.qg, .int .i64 s.dsk,vs s.Af s.fail s.qf,vs d'.As d'.stack d'.qs, .int .i64 d'.next, .int .i64 d'.sends, .int .i64 d'.disks, .bool d'.fault] 123,rows encI 2 1 d'.Av d'.qv d'.vars,rows Tb.cells 54 1 d'.At d'.qt d'.tabs,rosS encEn (d'.tabs.map Tb.ar),ros encEn d'.dk.A d'.dk.l,rows Ef.cells 86 8 d'.Ae d'.qe d'.effs,all (efK d'.effs),rows encI 2 1 d'.As d'.qs d'.stack],[ros encI s.Af s.fail],⟨rfl,d',rfl,hv,by unfold capsD;rw[k3,k4];exact hc⟩,?_⟩
   rw[←k1,←k2,←k3,←k4,←k5,←k6,←k7]
   exact List.Perm.cons _ (List.Perm.cons _ (List.perm_middle (l₁:=[_,_,_,_,_]) (l₂:=[_])).symm)
structure Runs2(s:Sm)(I:Nat→Dv→Prop):Prop where
 next:∀k d,I k d→0≤d.next
 fit:∀k d x,I k d→s.code[d.next.toNat]?=some x→Fit s x {d with next:=d.next+1}∧Okv s {d with next:=d.next+1}
 step:∀k d x,I k d→k<1048576→s.code[d.next.toNat]?=some x→(stepV s x {d with next:=d.next+1}).fault=false→I (k+1) (stepV s x {d with next:=d.next+1})
 effs:∀k d,I k d→d.effs.length≤2000000
theorem sendV_effs(x:Ins)(d:Dv):(sendV x d).effs.length≤d.effs.length+1:=by
 unfold sendV;split
 ·simp
 ·simp only[];split<;>simp
theorem diskV_effs(s:Sm)(x:Ins)(d:Dv):(diskV s x d).effs.length≤d.effs.length+1:=by
 unfold diskV;simp only[];split
 ·simp
 ·split<;>simp
theorem tableV_effs(x:Ins)(d:Dv):(tableV x d).effs=d.effs:=by
 unfold tableV;simp only[];repeat' split
 all_goals rfl
theorem ite_effs{p:Prop} [Decidable p]{a b:Dv}{n:Nat}(h1:a.effs.length≤n)(h2:b.effs.length≤n):(if p then a else b).effs.length≤n:=by split<;>assumption
theorem stepV_effs(s:Sm)(x:Ins)(d:Dv):(stepV s x d).effs.length≤d.effs.length+1:=by
 by_cases h1:((x.op:Nat):Int)=30∨((x.op:Nat):Int)=31
 ·rw[stepV_send h1];exact sendV_effs x d
 by_cases h2:((x.op:Nat):Int)=32∨((x.op:Nat):Int)=33
 ·rw[stepV_disk h2];exact diskV_effs s x d
 by_cases h3:((x.op:Nat):Int)=6∨((x.op:Nat):Int)=7∨((x.op:Nat):Int)=8∨((x.op:Nat):Int)=25∨((x.op:Nat):Int)=26
 ·rw[stepV_table h3,tableV_effs];omega
 unfold stepV
 rw[if_neg h1,if_neg h2,if_neg h3]
 repeat (refine ite_effs (Nat.le_succ _) ?_)
 exact Nat.le_succ _
theorem run_fn(b:Nat)(s:Sm)(I:Nat→Dv→Prop)(hR:Runs2 s I)(hc:s.code.length≤4000)(d0:Dm)(hI0:I 0 d0.val)(hc0:capsD d0):
    Dz 37 [pv b] [box b [vs d0.Av d0.vars d0.qv,vs d0.At d0.tabs d0.qt,vs d0.dk.A d0.dk.l d0.dk.q,vs d0.Ae d0.effs d0.qe, .int .i64 d0.cost,vs s.Ac s.code s.qc,vs s.Aa s.args s.qa, .int .i64 s.now,vs s.Ag s.flags s.qg, .int .i64 s.dsk,vs s.Af s.fail s.qf,vs d0.As d0.stack d0.qs, .int .i64 d0.next, .int .i64 d0.sends, .int .i64 d0.disks, .bool d0.fault] 123,rows encI 2 1 d0.Av d0.qv d0.vars,rows Tb.cells 54 1 d0.At d0.qt d0.tabs,rosS encEn (d0.tabs.map Tb.ar),ros encEn d0.dk.A d0.dk.l,rows Ef.cells 86 8 d0.Ae d0.qe d0.effs,all (efK d0.effs),rows encI 2 1 d0.As d0.qs d0.stack,ros encI s.Aa s.args,ros encB s.Ag s.flags,ros encI s.Af s.fail,ros Ins.cells s.Ac s.code] (fun v Γ'=>v= .tuple #[]∧∃d':Dm,Γ'=[box b [vs d'.Av d'.vars d'.qv,vs d'.At d'.tabs d'.qt,vs d'.dk.A d'.dk.l d'.dk.q,vs d'.Ae d'.effs d'.qe, .int .i64 d'.cost,vs s.Ac s.code s.qc,vs s.Aa s.args s.qa, .int .i64 s.now,vs s.Ag s.flags s.qg, .int .i64 s.dsk,vs s.Af s.fail s.qf,vs d'.As d'.stack d'.qs, .int .i64 d'.next, .int .i64 d'.sends, .int .i64 d'.disks, .bool d'.fault] 123,rows encI 2 1 d'.Av d'.qv d'.vars,rows Tb.cells 54 1 d'.At d'.qt d'.tabs,rosS encEn (d'.tabs.map Tb.ar),ros encEn d'.dk.A d'.dk.l,rows Ef.cells 86 8 d'.Ae d'.qe d'.effs,all (efK d'.effs),rows encI 2 1 d'.As d'.qs d'.stack]∧d'.val=runV s 1048576 d0.val∧capsD d'):=by
 refine Does.en func37 ntmps37 fun w0=>?_
 refine Jz 6 ?_
 refine JloopS (fun mz ρ Γ=>∃(d:Dm) (k:Nat),ρ=[(0,pv b),(2,nv k)]∧Γ=[box b [vs d.Av d.vars d.qv,vs d.At d.tabs d.qt,vs d.dk.A d.dk.l d.dk.q,vs d.Ae d.effs d.qe, .int .i64 d.cost,vs s.Ac s.code s.qc,vs s.Aa s.args s.qa, .int .i64 s.now,vs s.Ag s.flags s.qg, .int .i64 s.dsk,vs s.Af s.fail s.qf,vs d.As d.stack d.qs, .int .i64 d.next, .int .i64 d.sends, .int .i64 d.disks, .bool d.fault] 123,rows encI 2 1 d.Av d.qv d.vars,rows Tb.cells 54 1 d.At d.qt d.tabs,rosS encEn (d.tabs.map Tb.ar),ros encEn d.dk.A d.dk.l,rows Ef.cells 86 8 d.Ae d.qe d.effs,all (efK d.effs),rows encI 2 1 d.As d.qs d.stack,ros encI s.Aa s.args,ros encB s.Ag s.flags,ros encI s.Af s.fail,ros Ins.cells s.Ac s.code]∧mz=1048576-k∧(k≤1048576)∧(I k d.val)∧(runV s 1048576 d0.val=runV s (1048576-k) d.val)∧(capsD d)) (1048576-0) ⟨⟨d0,0,rfl,rfl,rfl,om,hI0,rfl,hc0⟩,sb⟩ ?_
 rintro mz _ _ ⟨d,k,rfl,rfl,rfl,hk,hI,hV,hcap⟩
 refine Js (Js (Jfw [] [0,1,2,4,5,6,103,107,8,9] (ocn _) ?_))
 refine Jz 12 ?_
 refine Jcp rfl ?_ ?_<;>intro c13
 have hlt:d.val.next<s.code.length:=c13
 refine Jz 11 ?_
 refine Jcp rfl ?_ ?_<;>intro c17
 refine Jz 17 ?_
 have hel:=hR.effs _ _ hI
 have hel2:d.effs.length≤2000000:=by have:(d.effs.map Ef.val).length≤2000000:=hel;simpa using this
 refine JnilRow (encI) 2 1 (Jz 7 ?_)
 refine Jr (.bd [.int .u8 5, .int .i64 0, .int .i64 0, .int .i64 0, .int .i64 0, .int .i64 0, .bool false, .slice none 0 0]) ?_
 refine To.sn [.int .u8 5, .int .i64 0, .int .i64 0, .int .i64 0, .int .i64 0, .int .i64 0, .bool false, .slice none 0 0] fun b52=>?_
 refine Jge rfl rfl rfl (Ge.append1 encEf (i:=7) (j:=0) (el:=(⟨5,0,0,0,0,0,false,none,0,[]⟩:Ef)) rfl s68 rfl rfl rfl rfl rfl om om) ?_
 rintro _ _ ⟨A53,q53,rfl,rfl⟩
 refine Jz 11 ?_
 refine Jup8 (Jup2 (JefPush (O:=d.effs) (e:=(⟨5,0,0,0,0,0,false,none,0,[]⟩:Ef)) (Jdel12 (Jdel11 (Jdel10 (Jdel9 (Jdel1 (Jup6 (Jup6 (Jup6 (Jup6 (Jup6 (Jup6 (Jend0 (.inl rfl) results37 ?_))))))))))))))
 exact⟨rfl,(⟨d.Av,d.qv,d.vars,d.At,d.qt,d.tabs,⟨d.dk.A,d.dk.q,d.dk.l⟩,A53,q53,(d.effs++[(⟨5,0,0,0,0,0,false,none,0,[]⟩:Ef)]),d.cost,d.As,d.qs,d.stack,d.next,d.sends,d.disks,true⟩:Dm),rfl,by rw[hV,show 1048576-k=0 from by omega,runV,if_pos (by assumption)];simp[Dm.val,stopV,faultE,Ef.val],hcap⟩
 refine Js ?_
 have hn0:=hR.next _ _ hI
 obtain⟨nx,hnx⟩:∃nx:Nat,d.next=((nx:Nat):Int):=⟨d.next.toNat,by have:0≤d.next:=hn0;omega⟩
 have hnl:nx<s.code.length:=om
 obtain⟨x,hx⟩:=exg s.code nx om
 have hx2:s.code[d.val.next.toNat]?=some x:=by show s.code[d.next.toNat]?=some x;rw[hnx,Int.toNat_natCast];exact hx
 obtain⟨hfit,hok⟩:=hR.fit _ _ x hI hx2
 refine Jfw [] [0,1,2,4,5,6,103,107,108,109,210,11511] (ocn _) ?_
 refine Jz 8 ?_
 refine Fw.r rfl (Rd.indexRosI encIn (i:=11) (j:=nx) rfl rfl rfl hnx s41 rfl hx) ?_
 refine Jz 1 ?_
 refine Fw.mk rfl rfl rfl rfl rfl (Mk.alloc rfl z116) ?_
 rintro _ _ ⟨b3,rfl,rfl⟩
 refine Fw.up rfl rfl rfl (Up.storeS (i:=0) rfl rfl rfl r116 rfl rfl rfl (bta rfl)) (ocn _) ?_
 refine Jz 8 ?_
 refine Jr (Rd.add64 rfl rfl rfl om) ?_
 refine Jz 5 ?_
 refine Jdup 9 rfl rfl (Jdup 11 rfl rfl (Jdup 13 rfl rfl (Jz 3 ?_)))
 refine Jcf [4,4,4,4,4,4,4,4,2,1,0] (step_fn b s (⟨d.Av,d.qv,d.vars,d.At,d.qt,d.tabs,⟨d.dk.A,d.dk.q,d.dk.l⟩,d.Ae,d.qe,d.effs,d.cost,d.As,d.qs,d.stack,d.next+1,d.sends,d.disks,d.fault⟩:Dm) x hfit hok hcap) ?_
 rintro _ _ ⟨rfl,d',rfl,hv,hcap'⟩
 refine Jz 10 ?_
 refine Jcond rfl ?_ ?_<;>intro c44
 refine Js ?_
 have hel:=hR.effs _ _ hI
 have hel2:d.effs.length≤2000000:=by have:(d.effs.map Ef.val).length≤2000000:=hel;simpa using this
 have hel3:d'.effs.length≤4000000:=by
  have h1:=stepV_effs s x {d.val with next:=d.val.next+1}
  have h2:d'.val.effs.length=d'.effs.length:=by show(d'.effs.map Ef.val).length=_;rw[List.length_map]
  have hv2:d'.val=stepV s x {d.val with next:=d.val.next+1}:=hv
  rw[←hv2,h2]at h1
  have h3:({d.val with next:=d.val.next+1}:Dv).effs.length≤2000000:=hel
  omega
 refine JnilRow (encI) 2 1 (Jz 7 ?_)
 refine Jr (.bd [.int .u8 5, .int .i64 0, .int .i64 0, .int .i64 0, .int .i64 0, .int .i64 0, .bool false, .slice none 0 0]) ?_
 refine To.sn [.int .u8 5, .int .i64 0, .int .i64 0, .int .i64 0, .int .i64 0, .int .i64 0, .bool false, .slice none 0 0] fun b52_2=>?_
 refine Jge rfl rfl rfl (Ge.append1 encEf (i:=7) (j:=0) (el:=(⟨5,0,0,0,0,0,false,none,0,[]⟩:Ef)) rfl s68 rfl rfl rfl rfl rfl om om) ?_
 rintro _ _ ⟨A53_2,q53_2,rfl,rfl⟩
 refine Jz 11 ?_
 refine Jup8 (Jup2 (JefPush (O:=d'.effs) (e:=(⟨5,0,0,0,0,0,false,none,0,[]⟩:Ef)) (Jdel13 (Jdel12 (Jdel11 (Jdel10 (Jdel9 (Jdel1 (Jup6 (Jup6 (Jup6 (Jup6 (Jup6 (Jup6 (Jend0 (.inl rfl) results37 ?_)))))))))))))))
 have hv:d'.val=stepV s x {d.val with next:=d.val.next+1}:=hv
 exact⟨rfl,(⟨d'.Av,d'.qv,d'.vars,d'.At,d'.qt,d'.tabs,⟨d'.dk.A,d'.dk.q,d'.dk.l⟩,A53_2,q53_2,(d'.effs++[(⟨5,0,0,0,0,0,false,none,0,[]⟩:Ef)]),d'.cost,d'.As,d'.qs,d'.stack,d'.next,d'.sends,d'.disks,d'.fault⟩:Dm),rfl,by rw[hV,show 1048576-k=(1048576-(k+1))+1 from by omega,runV_step (by assumption) hx2,←hv,if_pos (show d'.val.fault=true from c44)];simp[Dm.val,stopV,faultE,Ef.val],hcap'⟩
 refine Jz 9 ?_
 have hv:d'.val=stepV s x {d.val with next:=d.val.next+1}:=hv
 refine Jdel8 (JagS (1048576-(k+1)) om ⟨⟨d',k+1,rfl,rfl,rfl,om,(by rw[hv];exact hR.step _ _ x hI om hx2 (by rw[←hv];exact c44)),(by rw[hV,show 1048576-k=(1048576-(k+1))+1 from by omega,runV_step (by assumption) hx2,←hv,if_neg (by rw[show d'.val.fault=d'.fault from rfl,c44];decide)]),hcap'⟩,sb⟩)
 have hlt:¬d.val.next<s.code.length:=c13
 refine Jz 4 ?_
 refine Jdel11 (Jdel10 (Jdel9 (Jdel8 (Jend0 (.inr rfl) results37 ?_))))
 exact⟨rfl,d,rfl,by rw[hV,runV_end (by assumption)],hcap⟩
open Go.Sep
theorem pushes_more(i:Ins):((i.op:Int)=6∨(i.op:Int)=7∨(i.op:Int)=8→(rowOf i.op).pushes=1)∧((i.op:Int)=8→popsN i=0)∧((i.op:Int)=25∨(i.op:Int)=26∨((30:Int)≤i.op∧(i.op:Int)≤33)→(rowOf i.op).pushes=0):=by
 have key:∀o:Nat,o<35→(o=6∨o=7∨o=8→(rowOf o).pushes=1)∧(o=8→(rowOf o).pops=0)∧(o=25∨o=26∨(30≤o∧o≤33)→(rowOf o).pushes=0):=by decide
 have h:=key i.op
 unfold popsN
 refine⟨fun h1=>(h om).1 om,fun h1=>?_,fun h1=>(h om).2.2 om⟩
 rw[if_neg om];exact(h om).2.1 om
structure Shape(x:Ins)(d e:Dv):Prop where
 stack:(e.stack.length:Int)=aftH d.stack.length x
 vars:e.vars.length=d.vars.length
 cost:0≤d.cost∧d.cost≤200→0≤e.cost∧e.cost≤200
 tabs:e.tabs.length=d.tabs.length
 good:(∀t∈d.tabs,Good t)→∀t∈e.tabs,Good t
 disk:Good d.disk→Good e.disk
 sends:0≤d.sends∧d.sends≤8→0≤e.sends∧e.sends≤8
 disks:d.disks≤e.disks∧e.disks≤d.disks+1
 effs:e.effs.length≤d.effs.length+1
theorem good_set{l:List (List (Int×Int))}{t:List (Int×Int)}{j:Nat}(h:∀t∈l,Good t)(ht:Good t):∀u∈l.set j t,Good u:=fun u hu=>by
 rcases List.mem_or_eq_of_mem_set hu with h1|h1
 ·exact h u h1
 ·rw[h1];exact ht
theorem good_get{l:List (List (Int×Int))}{j:Nat}(h:∀t∈l,Good t):Good (l.getD j []):=by
 rw[List.getD_eq_getElem?_getD]
 cases e:l[j]? with
 |none=>exact⟨List.Pairwise.nil,Nat.zero_le _⟩
 |some t=>exact h t (mog e)
theorem sendV_31{x:Ins}{d:Dv}(hs:d.sends≠8)(h:((x.op:Nat):Int)=31):sendV x d={d with sends:=d.sends+1,stack:=(d.stack.take (d.stack.length-x.n.toNat)).dropLast,effs:=d.effs++[⟨2,x.a,x.b,(d.stack.take (d.stack.length-x.n.toNat)).getLastD 0,0,0,false,d.stack.drop (d.stack.length-x.n.toNat)⟩]}:=by
 unfold sendV
 rw[if_neg hs]
 exact if_pos h
theorem sendV_30{x:Ins}{d:Dv}(hs:d.sends≠8)(h:¬((x.op:Nat):Int)=31):sendV x d={d with sends:=d.sends+1,stack:=d.stack.take (d.stack.length-x.n.toNat),effs:=d.effs++[⟨1,x.a,x.b,0,0,0,false,d.stack.drop (d.stack.length-x.n.toNat)⟩]}:=by
 unfold sendV
 rw[if_neg hs]
 exact if_neg h
theorem sendV_8{x:Ins}{d:Dv}(hs:d.sends=8):sendV x d={d with fault:=true}:=by
 unfold sendV
 exact if_pos hs
theorem diskV_32{s:Sm}{x:Ins}{d:Dv}(h:((x.op:Nat):Int)=32):diskV s x d={d with disks:=d.disks+1,stack:=d.stack.dropLast.dropLast,next:=if decide (s.dsk+d.disks∈s.fail)=true then x.b else d.next,disk:=if decide (s.dsk+d.disks∈s.fail)=true then d.disk else putR d.disk (d.stack.dropLast.getLastD 0) (d.stack.getLastD 0),effs:=d.effs++[⟨3,0,0,0,d.stack.dropLast.getLastD 0,d.stack.getLastD 0,decide (s.dsk+d.disks∈s.fail),[]⟩]}:=by
 unfold diskV
 exact if_pos h
theorem diskV_33b{s:Sm}{x:Ins}{d:Dv}(h:¬((x.op:Nat):Int)=32)(hb:s.dsk+d.disks∈s.fail):diskV s x d={d with disks:=d.disks+1,stack:=d.stack.dropLast,next:=x.b,effs:=d.effs++[⟨4,0,0,0,d.stack.getLastD 0,0,true,[]⟩]}:=by
 unfold diskV
 exact(if_neg h).trans (if_pos (decide_eq_true hb))
theorem diskV_33g{s:Sm}{x:Ins}{d:Dv}(h:¬((x.op:Nat):Int)=32)(hb:¬s.dsk+d.disks∈s.fail):diskV s x d={d with disks:=d.disks+1,stack:=d.stack.dropLast,vars:=d.vars.set x.a.toNat ((getT d.disk (d.stack.getLastD 0)).getD 0),effs:=d.effs++[⟨4,0,0,0,d.stack.getLastD 0,(getT d.disk (d.stack.getLastD 0)).getD 0,false,[]⟩]}:=by
 unfold diskV
 exact(if_neg h).trans (if_neg (by rw[decide_eq_false hb];decide))
theorem shape_send{x:Ins}{d:Dv}(hop:((x.op:Nat):Int)=30∨((x.op:Nat):Int)=31)(hn:0≤x.n∧x.n≤4)(hp:popsN x≤d.stack.length)(hf:(sendV x d).fault=false):Shape x d (sendV x d)∧(sendV x d).next=d.next:=by
 have hpo:=pops_of x
 have hpu:=pushes_more x
 have hs:d.sends≠8:=fun h=>by rw[sendV_8 h]at hf;cases hf
 obtain⟨kn,hkn⟩:∃kn:Nat,x.n=((kn:Nat):Int):=⟨x.n.toNat,by omega⟩
 have e1:x.n.toNat=kn:=om
 have hd:d.disks≤d.disks+1:=om
 have hsd:0≤d.sends∧d.sends≤8→0≤d.sends+1∧d.sends+1≤8:=om
 have hl:∀e:EfV,(d.effs++[e]).length≤d.effs.length+1:=fun e=>by simp
 by_cases h31:((x.op:Nat):Int)=31
 · have h1:(((d.stack.take (d.stack.length-x.n.toNat)).dropLast.length:Nat):Int)=aftH d.stack.length x:=by
     unfold aftH
     rw[List.length_dropLast,List.length_take];omega
   rw[sendV_31 hs h31]
   exact⟨⟨h1,rfl,fun h=>h,rfl,fun h=>h,fun h=>h,hsd,⟨Int.le_refl _,hd⟩,hl _⟩,rfl⟩
 · have h30:((x.op:Nat):Int)=30:=by clear hpo hpu;omega
   have h2:popsN x=x.n:=hpo.2.2.1 h30
   have h3:(rowOf x.op).pushes=0:=hpu.2.2 (by rw[h30];decide)
   have h1:(((d.stack.take (d.stack.length-x.n.toNat)).length:Nat):Int)=aftH d.stack.length x:=by
    clear hpo hpu
    rw[h2]at hp
    unfold aftH
    rw[List.length_take,h2,h3,hkn,Int.toNat_natCast];omega
   rw[sendV_30 hs h31]
   exact⟨⟨h1,rfl,fun h=>h,rfl,fun h=>h,fun h=>h,hsd,⟨Int.le_refl _,hd⟩,hl _⟩,rfl⟩
theorem shape_disk{s:Sm}{x:Ins}{d:Dv}(hop:((x.op:Nat):Int)=32∨((x.op:Nat):Int)=33)(hp:popsN x≤d.stack.length):Shape x d (diskV s x d)∧((diskV s x d).next=x.b∨(diskV s x d).next=d.next):=by
 have hpo:=pops_of x
 have hpu:=pushes_more x
 have hd:d.disks≤d.disks+1:=om
 have hl:∀e:EfV,(d.effs++[e]).length≤d.effs.length+1:=fun e=>by simp
 by_cases h32:((x.op:Nat):Int)=32
 · have h1:((d.stack.dropLast.dropLast.length:Nat):Int)=aftH d.stack.length x:=by
     unfold aftH
     rw[List.length_dropLast,List.length_dropLast];omega
   rw[diskV_32 h32]
   by_cases hb:s.dsk+d.disks∈s.fail
   · rw[decide_eq_true hb]
     exact⟨⟨h1,rfl,fun h=>h,rfl,fun h=>h,fun h=>h,fun h=>h,⟨hd,Int.le_refl _⟩,hl _⟩, .inl rfl⟩
   · rw[decide_eq_false hb]
     exact⟨⟨h1,rfl,fun h=>h,rfl,fun h=>h,fun h=>h.put _ _,fun h=>h,⟨hd,Int.le_refl _⟩,hl _⟩, .inr rfl⟩
 · have h1:((d.stack.dropLast.length:Nat):Int)=aftH d.stack.length x:=by
     unfold aftH
     rw[List.length_dropLast];omega
   by_cases hb:s.dsk+d.disks∈s.fail
   · rw[diskV_33b h32 hb]
     exact⟨⟨h1,rfl,fun h=>h,rfl,fun h=>h,fun h=>h,fun h=>h,⟨hd,Int.le_refl _⟩,hl _⟩, .inl rfl⟩
   · rw[diskV_33g h32 hb]
     exact⟨⟨h1,List.length_set,fun h=>h,rfl,fun h=>h,fun h=>h,fun h=>h,⟨hd,Int.le_refl _⟩,hl _⟩, .inr rfl⟩
theorem shape_table{x:Ins}{d:Dv}(hop:((x.op:Nat):Int)=6∨((x.op:Nat):Int)=7∨((x.op:Nat):Int)=8∨((x.op:Nat):Int)=25∨((x.op:Nat):Int)=26)(hp:popsN x≤d.stack.length):Shape x d (tableV x d)∧(tableV x d).next=d.next:=by
 have hpo:=pops_of x
 have hpu:=pushes_more x
 unfold tableV
 simp only[]
 have hd:d.disks≤d.disks+1:=om
 by_cases h6:((x.op:Nat):Int)=6
 · rw[if_pos h6]
   refine⟨⟨?_,rfl,fun h=>h,rfl,fun h=>h,fun h=>h,fun h=>h,⟨Int.le_refl _,hd⟩,Nat.le_succ _⟩,rfl⟩
   simp only[aftH,lap,List.length_dropLast,lc1,ln0];omega
 rw[if_neg h6]
 by_cases h7:((x.op:Nat):Int)=7
 · rw[if_pos h7]
   refine⟨⟨?_,rfl,fun h=>h,rfl,fun h=>h,fun h=>h,fun h=>h,⟨Int.le_refl _,hd⟩,Nat.le_succ _⟩,rfl⟩
   simp only[aftH,lap,List.length_dropLast,lc1,ln0];omega
 rw[if_neg h7]
 by_cases h8:((x.op:Nat):Int)=8
 · rw[if_pos h8]
   refine⟨⟨?_,rfl,fun h=>h,rfl,fun h=>h,fun h=>h,fun h=>h,⟨Int.le_refl _,hd⟩,Nat.le_succ _⟩,rfl⟩
   simp only[aftH,lap,lc1,ln0];omega
 rw[if_neg h8]
 by_cases h25:((x.op:Nat):Int)=25
 · rw[if_pos h25]
   refine⟨⟨?_,rfl,fun h=>h,List.length_set,fun h=>good_set h ((good_get h).put _ _),fun h=>h,fun h=>h,⟨Int.le_refl _,hd⟩,Nat.le_succ _⟩,rfl⟩
   simp only[aftH,List.length_dropLast];omega
 · rw[if_neg h25]
   refine⟨⟨?_,rfl,fun h=>h,List.length_set,fun h=>good_set h ((good_get h).del _),fun h=>h,fun h=>h,⟨Int.le_refl _,hd⟩,Nat.le_succ _⟩,rfl⟩
   simp only[aftH,List.length_dropLast];omega
theorem ite_keeps{p:Prop} [Decidable p]{a b d:Dv}(h1:a.tabs=d.tabs∧a.disk=d.disk∧a.sends=d.sends∧a.disks=d.disks)(h2:b.tabs=d.tabs∧b.disk=d.disk∧b.sends=d.sends∧b.disks=d.disks):(if p then a else b).tabs=d.tabs∧(if p then a else b).disk=d.disk∧(if p then a else b).sends=d.sends∧(if p then a else b).disks=d.disks:=by split<;>assumption
theorem simple_keeps{s:Sm}{x:Ins}{d:Dv}(hs:Simple x):(stepV s x d).tabs=d.tabs∧(stepV s x d).disk=d.disk∧(stepV s x d).sends=d.sends∧(stepV s x d).disks=d.disks:=by
 obtain⟨s1,s2,s3,s4,s5,s6,s7,s8,s9⟩:=hs
 unfold stepV
 rw[if_neg (show¬(((x.op:Nat):Int)=30∨((x.op:Nat):Int)=31) by omega),if_neg (show¬(((x.op:Nat):Int)=32∨((x.op:Nat):Int)=33) by omega),if_neg (show¬(((x.op:Nat):Int)=6∨((x.op:Nat):Int)=7∨((x.op:Nat):Int)=8∨((x.op:Nat):Int)=25∨((x.op:Nat):Int)=26) by omega)]
 repeat (refine ite_keeps ⟨rfl,rfl,rfl,rfl⟩ ?_)
 exact⟨rfl,rfl,rfl,rfl⟩
theorem step_shape2{s:Sm}{x:Ins}{d:Dv}(hops:1≤(x.op:Int)∧(x.op:Int)≤34)(hn:((x.op:Nat):Int)=30∨((x.op:Nat):Int)=31→0≤x.n∧x.n≤4)(hp:popsN x≤d.stack.length)(hf:(stepV s x d).fault=false):Shape x d (stepV s x d)∧
    (((x.op:Int)=27∧(stepV s x d).next=x.a)∨((x.op:Int)=28∧((stepV s x d).next=x.a∨(stepV s x d).next=d.next))∨((x.op:Int)=34∧(stepV s x d).next=s.code.length)∨(((x.op:Int)=32∨(x.op:Int)=33)∧(stepV s x d).next=x.b)∨((x.op:Int)≠27∧(x.op:Int)≠34∧(stepV s x d).next=d.next)):=by
 by_cases h1:((x.op:Nat):Int)=30∨((x.op:Nat):Int)=31
 · rw[stepV_send h1]at hf⊢
   obtain⟨a,b⟩:=shape_send h1 (hn h1) hp hf
   exact⟨a, .inr (.inr (.inr (.inr ⟨by omega,by omega,b⟩)))⟩
 by_cases h2:((x.op:Nat):Int)=32∨((x.op:Nat):Int)=33
 · rw[stepV_disk h2]at hf⊢
   obtain⟨a,b⟩:=shape_disk (s:=s) h2 hp
   refine⟨a,?_⟩
   rcases b with b|b
   ·exact .inr (.inr (.inr (.inl ⟨h2,b⟩)))
   ·exact .inr (.inr (.inr (.inr ⟨by omega,by omega,b⟩)))
 by_cases h3:((x.op:Nat):Int)=6∨((x.op:Nat):Int)=7∨((x.op:Nat):Int)=8∨((x.op:Nat):Int)=25∨((x.op:Nat):Int)=26
 · rw[stepV_table h3]at hf⊢
   obtain⟨a,b⟩:=shape_table h3 hp
   exact⟨a, .inr (.inr (.inr (.inr ⟨by omega,by omega,b⟩)))⟩
 have hs:Simple x:=by unfold Simple;omega
 obtain⟨p1,p2,p3,p4,p5⟩:=step_shape (s:=s) (d:=d) hs hops hp
 obtain⟨k1,k2,k3,k4⟩:=simple_keeps (s:=s) (d:=d) hs
 refine⟨⟨p1,p2,p4,by rw[k1],fun h=>by rw[k1];exact h,fun h=>by rw[k2];exact h,fun h=>by rw[k3];exact h,by rw[k4];omega,by rw[p3];omega⟩,?_⟩
 rcases p5 with h|h|h|h
 ·exact .inl h
 ·exact .inr (.inl h)
 ·exact .inr (.inr (.inl h))
 ·exact .inr (.inr (.inr (.inr h)))
structure InvG(T:List Int)(n mv nt k:Nat)(d:Dv):Prop where
 next:0≤d.next∧d.next≤n
 here:d.next<n→T[d.next.toNat]?=some (d.stack.length:Int)
 vars:d.vars.length=mv
 cost:0≤d.cost∧d.cost≤200
 tabs:d.tabs.length=nt
 good:∀t∈d.tabs,Good t
 disk:Good d.disk
 sends:0≤d.sends∧d.sends≤8
 disks:0≤d.disks∧d.disks≤k
 effs:d.effs.length≤k
 few:k≤1048576
theorem formed_bn{pr:Int}{nc:Nat}{x:Ins}(h:formedB pr nc x=true)(h1:(x.op:Int)=30∨(x.op:Int)=31):0≤x.n∧x.n≤4:=by
 unfold formedB at h
 simp only[Bool.and_eq_true]at h
 obtain⟨_,hr⟩:=h
 rw[if_neg om,if_neg om]at hr
 by_cases hb:((x.op:Int)=30∨(x.op:Int)=31)∧(x.b<0∨63<x.b∨x.n<0∨4<x.n)
 ·rw[if_pos hb]at hr;cases hr
 ·omega
theorem runs_all{s:Sm}{pr st:Int}{mv nt:Nat}{T:List Int}(hst:st≤64)(hform:∀x∈s.code,formedB pr s.code.length x=true)(hT:∀k x,s.code[k]?=some x→∃m,OkAt T st k x m)(href:∀x∈s.code,referB x mv nt s.flags.length=true)(hpr:(s.args.length:Int)=pr)
    (hasc:AscI s.fail) (hfl:s.fail.length≤1000000) (hds:0≤s.dsk∧s.dsk≤1000000000):Runs2 s (InvG T s.code.length mv nt) where
 next k d h:=h.next.1
 effs k d h:=by have:=h.effs;have:=h.few;omega
 fit k d x h hx:=by
  have hxm:=mog hx
  have hlt:d.next<s.code.length:=by have:=(List.getElem?_eq_some_iff.1 hx).1;have:=h.next;omega
  obtain⟨m,hm⟩:=hT _ x hx
  have e1:=h.here hlt
  have hmm:m=(d.stack.length:Int):=by have:=hm.here;rw[e1]at this;exact(Option.some.inj this).symm
  have hf:=hform x hxm
  have hr:=href x hxm
  have hfo:=formed_ops hf
  have hfa:= @formed_a _ _ _ hf
  have hmt:=hm.top
  have hmp:=hm.pops
  have hdk:=h.disks
  have hef:=h.effs
  have hfw:=h.few
  refine⟨⟨fun ho=>?_,fun ho=>?_,fun ho=>?_,fun ho=>?_,fun ho=>formed_bn hf ho,hfo,?_,?_,h.cost⟩,⟨h.good,h.disk,hasc,hfl,?_,h.sends,?_,hds⟩⟩
  · unfold referB at hr
    rw[if_pos ho]at hr
    have a2:=of_decide_eq_true hr
    have a3:=(hfa om).1 om
    exact⟨a3.1,by show x.a<(d.vars.length:Int);rw[h.vars];exact a2⟩
  ·have:=(hfa om).2 ho;omega
  · unfold referB at hr
    rw[if_neg om,if_pos ho]at hr
    have a2:=of_decide_eq_true hr
    have a3:=(hfa om).1 om
    omega
  · unfold referB at hr
    rw[if_neg om,if_neg om,if_pos ho]at hr
    have a2:=of_decide_eq_true hr
    have a3:=(hfa om).1 om
    exact⟨a3.1,by show x.a<(d.tabs.length:Int);rw[h.tabs];exact a2⟩
  ·show popsN x≤(d.stack.length:Int);omega
  ·show d.stack.length≤4001;omega
  ·show d.effs.length≤2000000;omega
  ·show 0≤d.disks∧d.disks≤2000000;omega
 step k d x h hk hx hflt:=by
  have hxm:=mog hx
  have hlt:d.next<s.code.length:=by have:=(List.getElem?_eq_some_iff.1 hx).1;have:=h.next;omega
  obtain⟨m,hm⟩:=hT _ x hx
  have e1:=h.here hlt
  have hmm:m=(d.stack.length:Int):=by have:=hm.here;rw[e1]at this;exact(Option.some.inj this).symm
  have hf:=hform x hxm
  have hfo:=formed_ops hf
  have hff:=form_facts hf
  have hnx:=h.next
  have hdk:=h.disks
  have hef:=h.effs
  obtain⟨P,p5⟩:=step_shape2 (s:=s) (d:={d with next:=d.next+1}) hfo (fun ho=>formed_bn hf ho) (by show popsN x≤(d.stack.length:Int);have:=hm.pops;omega) hflt
  have p1:((stepV s x {d with next:=d.next+1}).stack.length:Int)=aftH m x:=by rw[P.stack,hmm]
  have hn1:((x.op:Nat):Int)≠27→((x.op:Nat):Int)≠34→T[(d.next+1).toNat]?=some (aftH m x):=fun a b=>by rw[show(d.next+1).toNat=d.next.toNat+1 from by omega];exact hm.next a b
  have htg:((x.op:Nat):Int)=27∨((x.op:Nat):Int)=28→tgt x=some x.a:=fun a=>by unfold tgt;rw[if_pos a]
  have htg2:((x.op:Nat):Int)=32∨((x.op:Nat):Int)=33→tgt x=some x.b:=fun a=>by unfold tgt;rw[if_neg om,if_pos a]
  have pd:d.disks≤(stepV s x {d with next:=d.next+1}).disks∧(stepV s x {d with next:=d.next+1}).disks≤d.disks+1:=P.disks
  have pe:(stepV s x {d with next:=d.next+1}).effs.length≤d.effs.length+1:=P.effs
  refine⟨?_,?_,P.vars.trans h.vars,P.cost h.cost,P.tabs.trans h.tabs,P.good h.good,P.disk h.disk,P.sends h.sends,by omega,by omega,by omega⟩
  · rcases p5 with⟨a,b⟩|⟨a,b|b⟩|⟨a,b⟩|⟨a,b⟩|⟨a,b,c⟩
    ·rw[htg (.inl a)]at hff;simp only[Option.getD_some]at hff;rw[b];omega
    ·rw[htg (.inr a)]at hff;simp only[Option.getD_some]at hff;rw[b];omega
    ·rw[b];show 0≤d.next+1∧d.next+1≤(s.code.length:Int);omega
    ·rw[b];omega
    ·rw[htg2 a]at hff;simp only[Option.getD_some]at hff;rw[b];omega
    ·rw[c];show 0≤d.next+1∧d.next+1≤(s.code.length:Int);omega
  · intro hlt2
    rw[p1]
    rcases p5 with⟨a,b⟩|⟨a,b|b⟩|⟨a,b⟩|⟨a,b⟩|⟨a,b,c⟩
    ·rw[b];exact hm.jump _ (htg (.inl a))
    ·rw[b];exact hm.jump _ (htg (.inr a))
    ·rw[b];exact hn1 om om
    ·rw[b]at hlt2;exact absurd hlt2 (Int.lt_irrefl _)
    ·rw[b];exact hm.jump _ (htg2 a)
    ·rw[c];exact hn1 a b
abbrev d0G(V:List Int)(tb:List (List (Int×Int)))(dk:List (Int×Int)):Dv:=⟨V,tb,dk,[],0,[],0,0,0,false⟩
theorem all_run{s:Sm}{pr st:Int}{V:List Int}{tb:List (List (Int×Int))}{dk:List (Int×Int)}(hv:verifyV pr st s.code=0)(href:∀x∈s.code,referB x V.length tb.length s.flags.length=true)(hpr:(s.args.length:Int)=pr)
    (hasc:AscI s.fail) (hfl:s.fail.length≤1000000) (hds:0≤s.dsk∧s.dsk≤1000000000) (hgt:∀t∈tb,Good t) (hgd:Good dk):∃I:Nat→Dv→Prop,Runs2 s I∧I 0 (d0G V tb dk):=by
 obtain⟨h1,h2,h3,h4,T,h5,h6,h7⟩:=verified hv
 refine⟨InvG T s.code.length V.length tb.length,runs_all h1 h4 h5 href hpr hasc hfl hds,⟨⟨Int.le_refl _,Int.natCast_nonneg _⟩,fun hlt=>?_,rfl,(show(0:Int)≤0∧(0:Int)≤200 by decide),rfl,hgt,hgd,(show(0:Int)≤0∧(0:Int)≤8 by decide),(show(0:Int)≤0∧(0:Int)≤((0:Nat):Int) by decide),Nat.le_refl _,Nat.zero_le _⟩⟩
 rcases h7 with h7|h7
 ·rw[h7]at hlt;simp at hlt
 ·exact h7
end Go.Proofs.YtlihklladkagpaaGreatDoor

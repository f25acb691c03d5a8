/- Own text. -/
import Derived.Test.YtlihklladkagpaaGreatDoorXf
set_option linter.unusedVariables false
set_option linter.unusedSimpArgs false
set_option maxHeartbeats 2000000
set_option maxRecDepth 100000
namespace Go.Proofs.YtlihklladkagpaaGreatDoor
open Go.Proofs.Tryz
open Go.RowKit Go.Flow Go.Mem Go.Sep
theorem Qb{s:Sm}{x:Ins}{d:Dv}(h:((x.op:Nat):Int)=30∨((x.op:Nat):Int)=31):Bj s x d=Ps x d:=by
 unfold Bj
 rw[aEa om,aEa om,aEa om,aEa om,aEa om,aEa om,aEa om,aEa om,aEa om,aEa om,aEh h]
theorem Ml{s:Sm}{x:Ins}{d:Dv}(h:((x.op:Nat):Int)=32∨((x.op:Nat):Int)=33):Bj s x d=Ng s x d:=by
 unfold Bj
 rw[aEa om,aEa om,aEa om,aEa om,aEa om,aEa om,aEa om,aEa om,aEa om,aEa om,aEa om,aEh h]
theorem Gl{s:Sm}{x:Ins}{d:Dv}(h:((x.op:Nat):Int)=6∨((x.op:Nat):Int)=7∨((x.op:Nat):Int)=8∨((x.op:Nat):Int)=25∨((x.op:Nat):Int)=26):Bj s x d=Gb x d:=by
 unfold Bj
 rw[aEa om,aEa om,aEa om,aEa om,aEa om,aEa om,aEa om,aEa om,aEa om,aEa om,aEa om,aEa om,aEa om,aEh h]
theorem sZ{P:Program}{f:FuncId}{args:List Value}{Γ Γ1 Δ:List Ai}{R:Value→List Ai→Prop}{is:List Nat}(h:aMa P f args Γ1 R)(hp:Te Γ is=some (Γ1,Δ)):aMa P f args Γ (fun v Γ'=>∃Γ1',R v Γ1'∧Γ'=Γ1'++Δ):=fun w hs=>
 (h w ((hs.perm (Hz hp)).left)).mono fun _ _ ⟨v,Γ',h1,h2,h3⟩=>⟨v,Γ'++Δ,h1,⟨Γ',h2,rfl⟩,Dj.at_ hp hs h3⟩
theorem dI{P:Program}{f:FuncId}{args:List Value}{Γ:List Ai}{R R':Value→List Ai→Prop}(h:aMa P f args Γ R)(hr:∀v Γ',R v Γ'→∃Γ'' Δ,R' v Γ''∧Γ'.Perm (Γ''++Δ)):aMa P f args Γ R':=fun w hs=>
 (h w hs).mono fun _ _ ⟨v,Γ',h1,h2,h3⟩=>by
  obtain⟨Γ'',Δ,h4,h5⟩:=hr v Γ' h2
  exact⟨v,Γ'',h1,h4,(h3.perm h5).drop⟩
theorem KS(b:Nat)(s:Sm)(d:Dm)(x:Ins)(hop:((x.op:Nat):Int)=6∨((x.op:Nat):Int)=7∨((x.op:Nat):Int)=8∨((x.op:Nat):Int)=25∨((x.op:Nat):Int)=26∨((x.op:Nat):Int)=30∨((x.op:Nat):Int)=31∨((x.op:Nat):Int)=32∨((x.op:Nat):Int)=33)(hf:Fit s x d.val)(ho:Okv s d.val)(hc:Ry d):
    Dz 63 [pv b, .agg (Ins.cells x).toArray] [box b (cD s d) 123,rows aLz 2 1 d.Av d.qv d.vars,rows Tb.cells 54 1 d.At d.qt d.tabs,De Be (d.tabs.map Tb.ar),ros Be d.dk.A d.dk.l,rows Ef.cells 86 8 d.Ae d.qe d.effs,De aLz (d.effs.map Ef.ar),rows aLz 2 1 d.As d.qs d.stack,ros aLz s.Aa s.args,ros Qv s.Ag s.flags,ros aLz s.Af s.fail] (fun v Γ'=>v= .tuple #[]∧∃d':Dm,Γ'=[box b (cD s d') 123,rows aLz 2 1 d'.Av d'.qv d'.vars,rows Tb.cells 54 1 d'.At d'.qt d'.tabs,De Be (d'.tabs.map Tb.ar),ros Be d'.dk.A d'.dk.l,rows Ef.cells 86 8 d'.Ae d'.qe d'.effs,De aLz (d'.effs.map Ef.ar),rows aLz 2 1 d'.As d'.qs d'.stack]∧d'.val=Bj s x d.val∧Ry d'):=by
 have htb:((x.op:Nat):Int)=6∨((x.op:Nat):Int)=7∨((x.op:Nat):Int)=8∨((x.op:Nat):Int)=25∨((x.op:Nat):Int)=26→0≤x.a∧x.a<((d.tabs.length:Nat):Int):=fun h=>by
  have:=hf.tab h
  have e:d.val.tabs.length=d.tabs.length:=by show(d.tabs.map Tb.l).length=_;rw[aEg]
  rw[e]at this;exact this
 refine Am func63 ntmps63 fun w0=>?_
 refine Js (To.g (Jbo fun b3=>?_))
 refine Jz 15 ?_
 refine Jcp rfl ?_ ?_<;>intro k25
 exfalso;omega
 refine Jz 6 ?_
 refine Jcp rfl ?_ ?_<;>intro k31
 exfalso;omega
 refine Jz 6 ?_
 refine Jcp rfl ?_ ?_<;>intro k45
 exfalso;omega
 refine Jz 6 ?_
 refine Jcp rfl ?_ ?_<;>intro k58
 exfalso;omega
 refine Jz 6 ?_
 refine Jcp rfl ?_ ?_<;>intro k72
 exfalso;omega
 refine Jz 7 ?_
 refine Jcp rfl ?_ ?_<;>intro k81
 exfalso;omega
 refine Jz 5 ?_
 refine Jcp rfl ?_ ?_<;>intro k81_2
 exfalso;omega
 refine Jz 6 ?_
 refine Jcp rfl ?_ ?_<;>intro k95
 exfalso;omega
 refine Jz 6 ?_
 refine Jcp rfl ?_ ?_<;>intro k108
 exfalso;omega
 refine Jz 6 ?_
 refine Jcp rfl ?_ ?_<;>intro k115
 exfalso;omega
 refine Jz 6 ?_
 refine Jcp rfl ?_ ?_<;>intro k125
 exfalso;omega
 refine Jz 7 ?_
 refine Jcp rfl ?_ ?_<;>intro k147
 refine Jsp (Jt (Gm (congrArg (fun b=>some (Value.bool b)) (aEk k147)) (Jz 3 ?_)))
 refine Jcf [1,1,1,1,1,1,1,1] (AX b s d x om hf ho hc) ?_
 rintro _ _ ⟨rfl,d',rfl,hv,hcap⟩
 refine Jn (Jbn (Fy (Gu (Jk (Kt (Co (.inr rfl) results63 ?_))))))
 exact⟨rfl,d',rfl,by rw[hv];exact(Qb om).symm,hcap⟩
 refine Jz 5 ?_
 refine Jcp rfl ?_ ?_<;>intro k147_2
 refine Jz 3 ?_
 refine Jcf [1,1,1,1,1,1,1,1] (AX b s d x om hf ho hc) ?_
 rintro _ _ ⟨rfl,d',rfl,hv,hcap⟩
 refine Jn (Jbn (Fy (Gu (Jk (Kt (Co (.inr rfl) results63 ?_))))))
 exact⟨rfl,d',rfl,by rw[hv];exact(Qb om).symm,hcap⟩
 refine Jz 7 ?_
 refine Jcp rfl ?_ ?_<;>intro k153
 refine Jsp (Jt (Gm (congrArg (fun b=>some (Value.bool b)) (aEk k153)) (Jz 3 ?_)))
 refine Jcf [1,1,1,1,1,1,1,1,3] (AY b s d x om hf ho hc) ?_
 rintro _ _ ⟨rfl,d',rfl,hv,hcap⟩
 refine Jn (Jbn (Gu (Jk (Kt (Co (.inr rfl) results63 ?_)))))
 exact⟨rfl,d',rfl,by rw[hv];exact(Ml om).symm,hcap⟩
 refine Jz 5 ?_
 refine Jcp rfl ?_ ?_<;>intro k153_2
 refine Jz 3 ?_
 refine Jcf [1,1,1,1,1,1,1,1,3] (AY b s d x om hf ho hc) ?_
 rintro _ _ ⟨rfl,d',rfl,hv,hcap⟩
 refine Jn (Jbn (Gu (Jk (Kt (Co (.inr rfl) results63 ?_)))))
 exact⟨rfl,d',rfl,by rw[hv];exact(Ml om).symm,hcap⟩
 refine Jz 6 ?_
 refine Jcp rfl ?_ ?_<;>intro k159
 exfalso;omega
 refine Jz 7 ?_
 refine Jcp rfl ?_ ?_<;>intro k169
 refine Jsp (Jt (Gm (congrArg (fun b=>some (Value.bool b)) (aEk k169)) ?_))
 obtain⟨ka,hka⟩:∃ka:Nat,x.a=((ka:Nat):Int):=⟨x.a.toNat,by have:=htb om;omega⟩
 have hkl:ka<d.tabs.length:=by have:=htb om;omega
 obtain⟨t,ht⟩:=exg d.tabs ka om
 refine Jfw [] [0,1,3,4,5,6,7,9,102,108,110,111,512] (ocn _) ?_
 refine Jz 11 ?_
 refine Fw.r rfl (Gt (i:=3) (j:=ka) rfl rfl rfl hka s51 rfl ht) ?_
 refine Da [1,1,1,1,1,1,1,1] (Vv b s d x ka t ht hka om hf ho hc) ?_
 rintro _ _ ⟨rfl,d',rfl,hv,hcap⟩
 refine⟨ocn _,?_⟩
 refine Jz 2 ?_
 refine Fy (Gu (Jk (Kt (Co (.inr rfl) results63 ?_))))
 exact⟨rfl,d',rfl,by rw[hv];exact(Gl om).symm,hcap⟩
 refine Jz 6 ?_
 refine Jcp rfl ?_ ?_<;>intro k169_2
 refine Jsp (Jt (Gm (congrArg (fun b=>some (Value.bool b)) (aEk k169_2)) ?_))
 obtain⟨ka,hka⟩:∃ka:Nat,x.a=((ka:Nat):Int):=⟨x.a.toNat,by have:=htb om;omega⟩
 have hkl:ka<d.tabs.length:=by have:=htb om;omega
 obtain⟨t,ht⟩:=exg d.tabs ka om
 refine Jfw [] [0,1,3,4,5,6,7,9,102,108,110,111,512] (ocn _) ?_
 refine Jz 11 ?_
 refine Fw.r rfl (Gt (i:=3) (j:=ka) rfl rfl rfl hka s51 rfl ht) ?_
 refine Da [1,1,1,1,1,1,1,1] (Vv b s d x ka t ht hka om hf ho hc) ?_
 rintro _ _ ⟨rfl,d',rfl,hv,hcap⟩
 refine⟨ocn _,?_⟩
 refine Jz 2 ?_
 refine Fy (Gu (Jk (Kt (Co (.inr rfl) results63 ?_))))
 exact⟨rfl,d',rfl,by rw[hv];exact(Gl om).symm,hcap⟩
 refine Jz 6 ?_
 refine Jcp rfl ?_ ?_<;>intro k169_3
 refine Jsp (Jt (Gm (congrArg (fun b=>some (Value.bool b)) (aEk k169_3)) ?_))
 obtain⟨ka,hka⟩:∃ka:Nat,x.a=((ka:Nat):Int):=⟨x.a.toNat,by have:=htb om;omega⟩
 have hkl:ka<d.tabs.length:=by have:=htb om;omega
 obtain⟨t,ht⟩:=exg d.tabs ka om
 refine Jfw [] [0,1,3,4,5,6,7,9,102,108,110,111,512] (ocn _) ?_
 refine Jz 11 ?_
 refine Fw.r rfl (Gt (i:=3) (j:=ka) rfl rfl rfl hka s51 rfl ht) ?_
 refine Da [1,1,1,1,1,1,1,1] (Vv b s d x ka t ht hka om hf ho hc) ?_
 rintro _ _ ⟨rfl,d',rfl,hv,hcap⟩
 refine⟨ocn _,?_⟩
 refine Jz 2 ?_
 refine Fy (Gu (Jk (Kt (Co (.inr rfl) results63 ?_))))
 exact⟨rfl,d',rfl,by rw[hv];exact(Gl om).symm,hcap⟩
 refine Jz 6 ?_
 refine Jcp rfl ?_ ?_<;>intro k169_4
 refine Jsp (Jt (Gm (congrArg (fun b=>some (Value.bool b)) (aEk k169_4)) ?_))
 obtain⟨ka,hka⟩:∃ka:Nat,x.a=((ka:Nat):Int):=⟨x.a.toNat,by have:=htb om;omega⟩
 have hkl:ka<d.tabs.length:=by have:=htb om;omega
 obtain⟨t,ht⟩:=exg d.tabs ka om
 refine Jfw [] [0,1,3,4,5,6,7,9,102,108,110,111,512] (ocn _) ?_
 refine Jz 11 ?_
 refine Fw.r rfl (Gt (i:=3) (j:=ka) rfl rfl rfl hka s51 rfl ht) ?_
 refine Da [1,1,1,1,1,1,1,1] (Vv b s d x ka t ht hka om hf ho hc) ?_
 rintro _ _ ⟨rfl,d',rfl,hv,hcap⟩
 refine⟨ocn _,?_⟩
 refine Jz 2 ?_
 refine Fy (Gu (Jk (Kt (Co (.inr rfl) results63 ?_))))
 exact⟨rfl,d',rfl,by rw[hv];exact(Gl om).symm,hcap⟩
 refine Jz 5 ?_
 refine Jcp rfl ?_ ?_<;>intro k169_5
 obtain⟨ka,hka⟩:∃ka:Nat,x.a=((ka:Nat):Int):=⟨x.a.toNat,by have:=htb om;omega⟩
 have hkl:ka<d.tabs.length:=by have:=htb om;omega
 obtain⟨t,ht⟩:=exg d.tabs ka om
 refine Jfw [] [0,1,3,4,5,6,7,9,102,108,110,111,512] (ocn _) ?_
 refine Jz 11 ?_
 refine Fw.r rfl (Gt (i:=3) (j:=ka) rfl rfl rfl hka s51 rfl ht) ?_
 refine Da [1,1,1,1,1,1,1,1] (Vv b s d x ka t ht hka om hf ho hc) ?_
 rintro _ _ ⟨rfl,d',rfl,hv,hcap⟩
 refine⟨ocn _,?_⟩
 refine Jz 2 ?_
 refine Fy (Gu (Jk (Kt (Co (.inr rfl) results63 ?_))))
 exact⟨rfl,d',rfl,by rw[hv];exact(Gl om).symm,hcap⟩
 exfalso;omega
theorem RI(b:Nat)(s:Sm)(d:Dm)(x:Ins)(hf:Fit s x d.val)(ho:Okv s d.val)(hc:Ry d):
    Dz 63 [pv b, .agg x.cells.toArray] [box b (cD s d) 123,rows aLz 2 1 d.Av d.qv d.vars,rows Tb.cells 54 1 d.At d.qt d.tabs,De Be (d.tabs.map Tb.ar),ros Be d.dk.A d.dk.l,rows Ef.cells 86 8 d.Ae d.qe d.effs,De aLz (d.effs.map Ef.ar),rows aLz 2 1 d.As d.qs d.stack,ros aLz s.Aa s.args,ros Qv s.Ag s.flags,ros aLz s.Af s.fail] (fun v Γ'=>v= .tuple #[]∧∃d':Dm,Γ'=[box b (cD s d') 123,rows aLz 2 1 d'.Av d'.qv d'.vars,rows Tb.cells 54 1 d'.At d'.qt d'.tabs,De Be (d'.tabs.map Tb.ar),ros Be d'.dk.A d'.dk.l,rows Ef.cells 86 8 d'.Ae d'.qe d'.effs,De aLz (d'.effs.map Ef.ar),rows aLz 2 1 d'.As d'.qs d'.stack]∧d'.val=Bj s x d.val∧Ry d'):=by
 by_cases hop:((x.op:Nat):Int)=6∨((x.op:Nat):Int)=7∨((x.op:Nat):Int)=8∨((x.op:Nat):Int)=25∨((x.op:Nat):Int)=26∨((x.op:Nat):Int)=30∨((x.op:Nat):Int)=31∨((x.op:Nat):Int)=32∨((x.op:Nat):Int)=33
 ·exact KS b s d x hop hf ho hc
 · refine dI (sZ (is:=[0,0,5,5,5]) (Δ:=[rows Tb.cells 54 1 d.At d.qt d.tabs,De Be (d.tabs.map Tb.ar),ros Be d.dk.A d.dk.l,rows Ef.cells 86 8 d.Ae d.qe d.effs,De aLz (d.effs.map Ef.ar),ros aLz s.Af s.fail]) (KC b s d x hf om) rfl) fun v Γ' h=>?_
   obtain⟨_,⟨rfl,d',rfl,⟨k1,k2,k3,k4,k5,k6,k7⟩,hv⟩,rfl⟩:=h
   refine⟨[box b (cD s d') 123,rows aLz 2 1 d'.Av d'.qv d'.vars,rows Tb.cells 54 1 d'.At d'.qt d'.tabs,De Be (d'.tabs.map Tb.ar),ros Be d'.dk.A d'.dk.l,rows Ef.cells 86 8 d'.Ae d'.qe d'.effs,De aLz (d'.effs.map Ef.ar),rows aLz 2 1 d'.As d'.qs d'.stack],[ros aLz s.Af s.fail],⟨rfl,d',rfl,hv,by unfold Ry;rw[k3,k4];exact hc⟩,?_⟩
   rw[←k1,←k2,←k3,←k4,←k5,←k6,←k7]
   exact List.Perm.cons _ (List.Perm.cons _ (aEl (l₁:=[_,_,_,_,_]) (l₂:=[_])).symm)
structure jA(s:Sm)(I:Nat→Dv→Prop):Prop where
 next:∀k d,I k d→0≤d.next
 fit:∀k d x,I k d→s.code[d.next.toNat]?=some x→Fit s x {d with next:=d.next+1}∧Okv s {d with next:=d.next+1}
 step:∀k d x,I k d→k<1048576→s.code[d.next.toNat]?=some x→(Bj s x {d with next:=d.next+1}).fault=false→I (k+1) (Bj s x {d with next:=d.next+1})
 effs:∀k d,I k d→d.effs.length≤2000000
theorem xB(x:Ins)(d:Dv):(Ps x d).effs.length≤d.effs.length+1:=by
 unfold Ps;split
 ·simp
 ·simp only[];split<;>simp
theorem xC(s:Sm)(x:Ins)(d:Dv):(Ng s x d).effs.length≤d.effs.length+1:=by
 unfold Ng;simp only[];split
 ·simp
 ·split<;>simp
theorem dJ(x:Ins)(d:Dv):(Gb x d).effs=d.effs:=by
 unfold Gb;simp only[];repeat' split
 all_goals rfl
theorem KT{p:Prop} [Decidable p]{a b:Dv}{n:Nat}(h1:a.effs.length≤n)(h2:b.effs.length≤n):(if p then a else b).effs.length≤n:=by split<;>assumption
theorem jB(s:Sm)(x:Ins)(d:Dv):(Bj s x d).effs.length≤d.effs.length+1:=by
 by_cases h1:((x.op:Nat):Int)=30∨((x.op:Nat):Int)=31
 ·rw[Qb h1];exact xB x d
 by_cases h2:((x.op:Nat):Int)=32∨((x.op:Nat):Int)=33
 ·rw[Ml h2];exact xC s x d
 by_cases h3:((x.op:Nat):Int)=6∨((x.op:Nat):Int)=7∨((x.op:Nat):Int)=8∨((x.op:Nat):Int)=25∨((x.op:Nat):Int)=26
 ·rw[Gl h3,dJ];omega
 unfold Bj
 rw[aEa h1,aEa h2,aEa h3]
 repeat (refine KT (Nat.le_succ _) ?_)
 exact Nat.le_succ _
theorem XB(b:Nat)(s:Sm)(I:Nat→Dv→Prop)(hR:jA s I)(hc:s.code.length≤4000)(d0:Dm)(hI0:I 0 d0.val)(hc0:Ry d0):
    Dz 37 [pv b] [box b (cD s d0) 123,rows aLz 2 1 d0.Av d0.qv d0.vars,rows Tb.cells 54 1 d0.At d0.qt d0.tabs,De Be (d0.tabs.map Tb.ar),ros Be d0.dk.A d0.dk.l,rows Ef.cells 86 8 d0.Ae d0.qe d0.effs,De aLz (d0.effs.map Ef.ar),rows aLz 2 1 d0.As d0.qs d0.stack,ros aLz s.Aa s.args,ros Qv s.Ag s.flags,ros aLz s.Af s.fail,ros Ins.cells s.Ac s.code] (fun v Γ'=>v= .tuple #[]∧∃d':Dm,Γ'=[box b (cD s d') 123,rows aLz 2 1 d'.Av d'.qv d'.vars,rows Tb.cells 54 1 d'.At d'.qt d'.tabs,De Be (d'.tabs.map Tb.ar),ros Be d'.dk.A d'.dk.l,rows Ef.cells 86 8 d'.Ae d'.qe d'.effs,De aLz (d'.effs.map Ef.ar),rows aLz 2 1 d'.As d'.qs d'.stack]∧d'.val=Nl s 1048576 d0.val∧Ry d'):=by
 refine Am func37 ntmps37 fun w0=>?_
 refine Jz 6 ?_
 refine Ie (fun mz ρ Γ=>∃(d:Dm) (k:Nat),ρ=[(0,pv b),(2,nv k)]∧Γ=[box b (cD s d) 123,rows aLz 2 1 d.Av d.qv d.vars,rows Tb.cells 54 1 d.At d.qt d.tabs,De Be (d.tabs.map Tb.ar),ros Be d.dk.A d.dk.l,rows Ef.cells 86 8 d.Ae d.qe d.effs,De aLz (d.effs.map Ef.ar),rows aLz 2 1 d.As d.qs d.stack,ros aLz s.Aa s.args,ros Qv s.Ag s.flags,ros aLz s.Af s.fail,ros Ins.cells s.Ac s.code]∧mz=1048576-k∧(k≤1048576)∧(I k d.val)∧(Nl s 1048576 d0.val=Nl s (1048576-k) d.val)∧(Ry d)) (1048576-0) ⟨⟨d0,0,rfl,rfl,rfl,om,hI0,rfl,hc0⟩,sb⟩ ?_
 rintro mz _ _ ⟨d,k,rfl,rfl,rfl,hk,hI,hV,hcap⟩
 refine Js (Js (Jfw [] [0,1,2,4,5,6,103,107,8,9] (ocn _) ?_))
 refine Jz 12 ?_
 refine Jcp rfl ?_ ?_<;>intro c13
 have hlt:d.val.next<s.code.length:=c13
 refine Jz 11 ?_
 refine Jcp rfl ?_ ?_<;>intro c17
 refine Jz 17 ?_
 have hel:=hR.effs _ _ hI
 have hel2:d.effs.length≤2000000:=by have:(d.effs.map Ef.val).length≤2000000:=hel;simpa using this
 refine Mg (c:=ros aLz none []) rfl rfl (fun w=> .inl rfl) (Jz 7 ?_)
 refine Jr (.bd [.int .u8 5,iv 0,iv 0,iv 0,iv 0,iv 0, .bool false,nz]) ?_
 refine Eg [.int .u8 5,iv 0,iv 0,iv 0,iv 0,iv 0, .bool false,nz] fun b52=>?_
 refine Jge rfl rfl rfl (Bg Zq (i:=7) (j:=0) (el:=(⟨5,0,0,0,0,0,false,none,0,[]⟩:Ef)) rfl s68 rfl rfl rfl rfl rfl om om) ?_
 rintro _ _ ⟨A53,q53,rfl,rfl⟩
 refine Jz 11 ?_
 refine La ((d.effs++[(⟨5,0,0,0,0,0,false,none,0,[]⟩:Ef)]).map Ef.ar) 8 rfl (Ih (mog (i:=1) rfl)) (bI (Pz (Iw (Fy (Jk (Cu (Df (Ej (Ej (Ej (Ej (Ej (Ej (Co (.inl rfl) results37 ?_))))))))))))))
 exact⟨rfl,(⟨d.Av,d.qv,d.vars,d.At,d.qt,d.tabs,⟨d.dk.A,d.dk.q,d.dk.l⟩,A53,q53,(d.effs++[(⟨5,0,0,0,0,0,false,none,0,[]⟩:Ef)]),d.cost,d.As,d.qs,d.stack,d.next,d.sends,d.disks,true⟩:Dm),rfl,by rw[hV,show 1048576-k=0 from by omega,Nl,aEh (by assumption)];simp[Dm.val,Zu,Ph,Ef.val],hcap⟩
 refine Js ?_
 have hn0:=hR.next _ _ hI
 obtain⟨nx,hnx⟩:∃nx:Nat,d.next=((nx:Nat):Int):=⟨d.next.toNat,by have:0≤d.next:=hn0;omega⟩
 have hnl:nx<s.code.length:=om
 obtain⟨x,hx⟩:=exg s.code nx om
 have hx2:s.code[d.val.next.toNat]?=some x:=by show s.code[d.next.toNat]?=some x;rw[hnx,Int.toNat_natCast];exact hx
 obtain⟨hfit,hok⟩:=hR.fit _ _ x hI hx2
 refine Jfw [] [0,1,2,4,5,6,103,107,108,109,210,11511] (ocn _) ?_
 refine Jz 8 ?_
 refine Fw.r rfl (Ow Zp (i:=11) (j:=nx) rfl rfl rfl hnx s41 rfl hx) ?_
 refine Jz 1 ?_
 refine Fw.mk rfl rfl rfl rfl rfl (Mk.alloc rfl aCv) ?_
 rintro _ _ ⟨b3,rfl,rfl⟩
 refine Fw.up rfl rfl rfl (Bl (i:=0) rfl rfl rfl aCu rfl rfl rfl (bta rfl)) (ocn _) ?_
 refine Jz 8 ?_
 refine Jr (Hl rfl rfl rfl om) ?_
 refine Jz 5 ?_
 refine Px 9 rfl rfl (Px 11 rfl rfl (Px 13 rfl rfl (Jz 3 ?_)))
 refine Jcf [4,4,4,4,4,4,4,4,2,1,0] (RI b s (⟨d.Av,d.qv,d.vars,d.At,d.qt,d.tabs,⟨d.dk.A,d.dk.q,d.dk.l⟩,d.Ae,d.qe,d.effs,d.cost,d.As,d.qs,d.stack,d.next+1,d.sends,d.disks,d.fault⟩:Dm) x hfit hok hcap) ?_
 rintro _ _ ⟨rfl,d',rfl,hv,hcap'⟩
 refine Jz 10 ?_
 refine Ed rfl ?_ ?_<;>intro c44
 refine Js ?_
 have hel:=hR.effs _ _ hI
 have hel2:d.effs.length≤2000000:=by have:(d.effs.map Ef.val).length≤2000000:=hel;simpa using this
 have hel3:d'.effs.length≤4000000:=by
  have h1:=jB s x {d.val with next:=d.val.next+1}
  have h2:d'.val.effs.length=d'.effs.length:=by show(d'.effs.map Ef.val).length=_;rw[aEg]
  have hv2:d'.val=Bj s x {d.val with next:=d.val.next+1}:=hv
  rw[←hv2,h2]at h1
  have h3:({d.val with next:=d.val.next+1}:Dv).effs.length≤2000000:=hel
  omega
 refine Mg (c:=ros aLz none []) rfl rfl (fun w=> .inl rfl) (Jz 7 ?_)
 refine Jr (.bd [.int .u8 5,iv 0,iv 0,iv 0,iv 0,iv 0, .bool false,nz]) ?_
 refine Eg [.int .u8 5,iv 0,iv 0,iv 0,iv 0,iv 0, .bool false,nz] fun b52_2=>?_
 refine Jge rfl rfl rfl (Bg Zq (i:=7) (j:=0) (el:=(⟨5,0,0,0,0,0,false,none,0,[]⟩:Ef)) rfl s68 rfl rfl rfl rfl rfl om om) ?_
 rintro _ _ ⟨A53_2,q53_2,rfl,rfl⟩
 refine Jz 11 ?_
 refine La ((d'.effs++[(⟨5,0,0,0,0,0,false,none,0,[]⟩:Ef)]).map Ef.ar) 8 rfl (Ih (mog (i:=1) rfl)) (iA (bI (Pz (Iw (Fy (Jk (Cu (Df (Ej (Ej (Ej (Ej (Ej (Ej (Co (.inl rfl) results37 ?_)))))))))))))))
 have hv:d'.val=Bj s x {d.val with next:=d.val.next+1}:=hv
 exact⟨rfl,(⟨d'.Av,d'.qv,d'.vars,d'.At,d'.qt,d'.tabs,⟨d'.dk.A,d'.dk.q,d'.dk.l⟩,A53_2,q53_2,(d'.effs++[(⟨5,0,0,0,0,0,false,none,0,[]⟩:Ef)]),d'.cost,d'.As,d'.qs,d'.stack,d'.next,d'.sends,d'.disks,d'.fault⟩:Dm),rfl,by rw[hV,show 1048576-k=(1048576-(k+1))+1 from by omega,Wt (by assumption) hx2,←hv,aEh (show d'.val.fault=true from c44)];simp[Dm.val,Zu,Ph,Ef.val],hcap'⟩
 refine Jz 9 ?_
 have hv:d'.val=Bj s x {d.val with next:=d.val.next+1}:=hv
 refine Kt (Vb (1048576-(k+1)) om ⟨⟨d',k+1,rfl,rfl,rfl,om,(by rw[hv];exact hR.step _ _ x hI om hx2 (by rw[←hv];exact c44)),(by rw[hV,show 1048576-k=(1048576-(k+1))+1 from by omega,Wt (by assumption) hx2,←hv,aEa (by rw[show d'.val.fault=d'.fault from rfl,c44];decide)]),hcap'⟩,sb⟩)
 have hlt:¬d.val.next<s.code.length:=c13
 refine Jz 4 ?_
 refine Fy (Gu (Jk (Kt (Co (.inr rfl) results37 ?_))))
 exact⟨rfl,d,rfl,by rw[hV,Zv (by assumption)],hcap⟩
open Go.Sep
theorem Vw(i:Ins):((i.op:Int)=6∨(i.op:Int)=7∨(i.op:Int)=8→(rowOf i.op).pushes=1)∧((i.op:Int)=8→Fx i=0)∧((i.op:Int)=25∨(i.op:Int)=26∨((30:Int)≤i.op∧(i.op:Int)≤33)→(rowOf i.op).pushes=0):=by
 have key:∀o:Nat,o<35→(o=6∨o=7∨o=8→(rowOf o).pushes=1)∧(o=8→(rowOf o).pops=0)∧(o=25∨o=26∨(30≤o∧o≤33)→(rowOf o).pushes=0):=by decide
 have h:=key i.op
 unfold Fx
 refine⟨fun h1=>(h om).1 om,fun h1=>?_,fun h1=>(h om).2.2 om⟩
 rw[aEa om];exact(h om).2.1 om
structure Shape(x:Ins)(d e:Dv):Prop where
 stack:(e.stack.length:Int)=Mi d.stack.length x
 vars:e.vars.length=d.vars.length
 cost:0≤d.cost∧d.cost≤200→0≤e.cost∧e.cost≤200
 tabs:e.tabs.length=d.tabs.length
 good:(∀t∈d.tabs,Good t)→∀t∈e.tabs,Good t
 disk:Good d.disk→Good e.disk
 sends:0≤d.sends∧d.sends≤8→0≤e.sends∧e.sends≤8
 disks:d.disks≤e.disks∧e.disks≤d.disks+1
 effs:e.effs.length≤d.effs.length+1
theorem tF{l:List (List (Int×Int))}{t:List (Int×Int)}{j:Nat}(h:∀t∈l,Good t)(ht:Good t):∀u∈l.set j t,Good u:=fun u hu=>by
 rcases List.mem_or_eq_of_mem_set hu with h1|h1
 ·exact h u h1
 ·rw[h1];exact ht
theorem tH{l:List (List (Int×Int))}{j:Nat}(h:∀t∈l,Good t):Good (l.getD j []):=by
 rw[aEx]
 cases e:l[j]? with
 |none=>exact⟨List.Pairwise.nil,aEw _⟩
 |some t=>exact h t (mog e)
theorem jC{x:Ins}{d:Dv}(hs:d.sends≠8)(h:((x.op:Nat):Int)=31):Ps x d={d with sends:=d.sends+1,stack:=(d.stack.take (d.stack.length-x.n.toNat)).dropLast,effs:=d.effs++[⟨2,x.a,x.b,(d.stack.take (d.stack.length-x.n.toNat)).getLastD 0,0,0,false,d.stack.drop (d.stack.length-x.n.toNat)⟩]}:=by
 unfold Ps
 rw[aEa hs]
 exact aEh h
theorem jD{x:Ins}{d:Dv}(hs:d.sends≠8)(h:¬((x.op:Nat):Int)=31):Ps x d={d with sends:=d.sends+1,stack:=d.stack.take (d.stack.length-x.n.toNat),effs:=d.effs++[⟨1,x.a,x.b,0,0,0,false,d.stack.drop (d.stack.length-x.n.toNat)⟩]}:=by
 unfold Ps
 rw[aEa hs]
 exact aEa h
theorem pQ{x:Ins}{d:Dv}(hs:d.sends=8):Ps x d={d with fault:=true}:=by
 unfold Ps
 exact aEh hs
theorem jE{s:Sm}{x:Ins}{d:Dv}(h:((x.op:Nat):Int)=32):Ng s x d={d with disks:=d.disks+1,stack:=d.stack.dropLast.dropLast,next:=if decide (s.dsk+d.disks∈s.fail)=true then x.b else d.next,disk:=if decide (s.dsk+d.disks∈s.fail)=true then d.disk else Oq d.disk (d.stack.dropLast.getLastD 0) (d.stack.getLastD 0),effs:=d.effs++[⟨3,0,0,0,d.stack.dropLast.getLastD 0,d.stack.getLastD 0,decide (s.dsk+d.disks∈s.fail),[]⟩]}:=by
 unfold Ng
 exact aEh h
theorem bN{s:Sm}{x:Ins}{d:Dv}(h:¬((x.op:Nat):Int)=32)(hb:s.dsk+d.disks∈s.fail):Ng s x d={d with disks:=d.disks+1,stack:=d.stack.dropLast,next:=x.b,effs:=d.effs++[⟨4,0,0,0,d.stack.getLastD 0,0,true,[]⟩]}:=by
 unfold Ng
 exact(aEa h).trans (aEh (aEk hb))
theorem bO{s:Sm}{x:Ins}{d:Dv}(h:¬((x.op:Nat):Int)=32)(hb:¬s.dsk+d.disks∈s.fail):Ng s x d={d with disks:=d.disks+1,stack:=d.stack.dropLast,vars:=d.vars.set x.a.toNat ((Fp d.disk (d.stack.getLastD 0)).getD 0),effs:=d.effs++[⟨4,0,0,0,d.stack.getLastD 0,(Fp d.disk (d.stack.getLastD 0)).getD 0,false,[]⟩]}:=by
 unfold Ng
 exact(aEa h).trans (aEa (by rw[aEo hb];decide))
theorem xD{x:Ins}{d:Dv}(hop:((x.op:Nat):Int)=30∨((x.op:Nat):Int)=31)(hn:0≤x.n∧x.n≤4)(hp:Fx x≤d.stack.length)(hf:(Ps x d).fault=false):Shape x d (Ps x d)∧(Ps x d).next=d.next:=by
 have hpo:=Ql x
 have hpu:=Vw x
 have hs:d.sends≠8:=fun h=>by rw[pQ h]at hf;cases hf
 obtain⟨kn,hkn⟩:∃kn:Nat,x.n=((kn:Nat):Int):=⟨x.n.toNat,by omega⟩
 have e1:x.n.toNat=kn:=om
 have hd:d.disks≤d.disks+1:=om
 have hsd:0≤d.sends∧d.sends≤8→0≤d.sends+1∧d.sends+1≤8:=om
 have hl:∀e:EfV,(d.effs++[e]).length≤d.effs.length+1:=fun e=>by simp
 by_cases h31:((x.op:Nat):Int)=31
 · have h1:(((d.stack.take (d.stack.length-x.n.toNat)).dropLast.length:Nat):Int)=Mi d.stack.length x:=by
     unfold Mi
     rw[aEf,aEe];omega
   rw[jC hs h31]
   exact⟨⟨h1,rfl,fun h=>h,rfl,fun h=>h,fun h=>h,hsd,⟨Int.le_refl _,hd⟩,hl _⟩,rfl⟩
 · have h30:((x.op:Nat):Int)=30:=by clear hpo hpu;omega
   have h2:Fx x=x.n:=hpo.2.2.1 h30
   have h3:(rowOf x.op).pushes=0:=hpu.2.2 (by rw[h30];decide)
   have h1:(((d.stack.take (d.stack.length-x.n.toNat)).length:Nat):Int)=Mi d.stack.length x:=by
    clear hpo hpu
    rw[h2]at hp
    unfold Mi
    rw[aEe,h2,h3,hkn,Int.toNat_natCast];omega
   rw[jD hs h31]
   exact⟨⟨h1,rfl,fun h=>h,rfl,fun h=>h,fun h=>h,hsd,⟨Int.le_refl _,hd⟩,hl _⟩,rfl⟩
theorem jF{s:Sm}{x:Ins}{d:Dv}(hop:((x.op:Nat):Int)=32∨((x.op:Nat):Int)=33)(hp:Fx x≤d.stack.length):Shape x d (Ng s x d)∧((Ng s x d).next=x.b∨(Ng s x d).next=d.next):=by
 have hpo:=Ql x
 have hpu:=Vw x
 have hd:d.disks≤d.disks+1:=om
 have hl:∀e:EfV,(d.effs++[e]).length≤d.effs.length+1:=fun e=>by simp
 by_cases h32:((x.op:Nat):Int)=32
 · have h1:((d.stack.dropLast.dropLast.length:Nat):Int)=Mi d.stack.length x:=by
     unfold Mi
     rw[aEf,aEf];omega
   rw[jE h32]
   by_cases hb:s.dsk+d.disks∈s.fail
   · rw[aEk hb]
     exact⟨⟨h1,rfl,fun h=>h,rfl,fun h=>h,fun h=>h,fun h=>h,⟨hd,Int.le_refl _⟩,hl _⟩, .inl rfl⟩
   · rw[aEo hb]
     exact⟨⟨h1,rfl,fun h=>h,rfl,fun h=>h,fun h=>h.put _ _,fun h=>h,⟨hd,Int.le_refl _⟩,hl _⟩, .inr rfl⟩
 · have h1:((d.stack.dropLast.length:Nat):Int)=Mi d.stack.length x:=by
     unfold Mi
     rw[aEf];omega
   by_cases hb:s.dsk+d.disks∈s.fail
   · rw[bN h32 hb]
     exact⟨⟨h1,rfl,fun h=>h,rfl,fun h=>h,fun h=>h,fun h=>h,⟨hd,Int.le_refl _⟩,hl _⟩, .inl rfl⟩
   · rw[bO h32 hb]
     exact⟨⟨h1,aEj,fun h=>h,rfl,fun h=>h,fun h=>h,fun h=>h,⟨hd,Int.le_refl _⟩,hl _⟩, .inr rfl⟩
theorem dK{x:Ins}{d:Dv}(hop:((x.op:Nat):Int)=6∨((x.op:Nat):Int)=7∨((x.op:Nat):Int)=8∨((x.op:Nat):Int)=25∨((x.op:Nat):Int)=26)(hp:Fx x≤d.stack.length):Shape x d (Gb x d)∧(Gb x d).next=d.next:=by
 have hpo:=Ql x
 have hpu:=Vw x
 unfold Gb
 simp only[]
 have hd:d.disks≤d.disks+1:=om
 by_cases h6:((x.op:Nat):Int)=6
 · rw[aEh h6]
   refine⟨⟨?_,rfl,fun h=>h,rfl,fun h=>h,fun h=>h,fun h=>h,⟨Int.le_refl _,hd⟩,Nat.le_succ _⟩,rfl⟩
   simp only[Mi,lap,aEf,lc1,ln0];omega
 rw[aEa h6]
 by_cases h7:((x.op:Nat):Int)=7
 · rw[aEh h7]
   refine⟨⟨?_,rfl,fun h=>h,rfl,fun h=>h,fun h=>h,fun h=>h,⟨Int.le_refl _,hd⟩,Nat.le_succ _⟩,rfl⟩
   simp only[Mi,lap,aEf,lc1,ln0];omega
 rw[aEa h7]
 by_cases h8:((x.op:Nat):Int)=8
 · rw[aEh h8]
   refine⟨⟨?_,rfl,fun h=>h,rfl,fun h=>h,fun h=>h,fun h=>h,⟨Int.le_refl _,hd⟩,Nat.le_succ _⟩,rfl⟩
   simp only[Mi,lap,lc1,ln0];omega
 rw[aEa h8]
 by_cases h25:((x.op:Nat):Int)=25
 · rw[aEh h25]
   refine⟨⟨?_,rfl,fun h=>h,aEj,fun h=>tF h ((tH h).put _ _),fun h=>h,fun h=>h,⟨Int.le_refl _,hd⟩,Nat.le_succ _⟩,rfl⟩
   simp only[Mi,aEf];omega
 · rw[aEa h25]
   refine⟨⟨?_,rfl,fun h=>h,aEj,fun h=>tF h ((tH h).del _),fun h=>h,fun h=>h,⟨Int.le_refl _,hd⟩,Nat.le_succ _⟩,rfl⟩
   simp only[Mi,aEf];omega
theorem EQ{p:Prop} [Decidable p]{a b d:Dv}(h1:a.tabs=d.tabs∧a.disk=d.disk∧a.sends=d.sends∧a.disks=d.disks)(h2:b.tabs=d.tabs∧b.disk=d.disk∧b.sends=d.sends∧b.disks=d.disks):(if p then a else b).tabs=d.tabs∧(if p then a else b).disk=d.disk∧(if p then a else b).sends=d.sends∧(if p then a else b).disks=d.disks:=by split<;>assumption
theorem aB{s:Sm}{x:Ins}{d:Dv}(hs:Ui x):(Bj s x d).tabs=d.tabs∧(Bj s x d).disk=d.disk∧(Bj s x d).sends=d.sends∧(Bj s x d).disks=d.disks:=by
 obtain⟨s1,s2,s3,s4,s5,s6,s7,s8,s9⟩:=hs
 unfold Bj
 rw[aEa (show¬(((x.op:Nat):Int)=30∨((x.op:Nat):Int)=31) by omega),aEa (show¬(((x.op:Nat):Int)=32∨((x.op:Nat):Int)=33) by omega),aEa (show¬(((x.op:Nat):Int)=6∨((x.op:Nat):Int)=7∨((x.op:Nat):Int)=8∨((x.op:Nat):Int)=25∨((x.op:Nat):Int)=26) by omega)]
 repeat (refine EQ ⟨rfl,rfl,rfl,rfl⟩ ?_)
 exact⟨rfl,rfl,rfl,rfl⟩
theorem tJ{s:Sm}{x:Ins}{d:Dv}(hops:1≤(x.op:Int)∧(x.op:Int)≤34)(hn:((x.op:Nat):Int)=30∨((x.op:Nat):Int)=31→0≤x.n∧x.n≤4)(hp:Fx x≤d.stack.length)(hf:(Bj s x d).fault=false):Shape x d (Bj s x d)∧
    (((x.op:Int)=27∧(Bj s x d).next=x.a)∨((x.op:Int)=28∧((Bj s x d).next=x.a∨(Bj s x d).next=d.next))∨((x.op:Int)=34∧(Bj s x d).next=s.code.length)∨(((x.op:Int)=32∨(x.op:Int)=33)∧(Bj s x d).next=x.b)∨((x.op:Int)≠27∧(x.op:Int)≠34∧(Bj s x d).next=d.next)):=by
 by_cases h1:((x.op:Nat):Int)=30∨((x.op:Nat):Int)=31
 · rw[Qb h1]at hf⊢
   obtain⟨a,b⟩:=xD h1 (hn h1) hp hf
   exact⟨a, .inr (.inr (.inr (.inr ⟨by omega,by omega,b⟩)))⟩
 by_cases h2:((x.op:Nat):Int)=32∨((x.op:Nat):Int)=33
 · rw[Ml h2]at hf⊢
   obtain⟨a,b⟩:=jF (s:=s) h2 hp
   refine⟨a,?_⟩
   rcases b with b|b
   ·exact .inr (.inr (.inr (.inl ⟨h2,b⟩)))
   ·exact .inr (.inr (.inr (.inr ⟨by omega,by omega,b⟩)))
 by_cases h3:((x.op:Nat):Int)=6∨((x.op:Nat):Int)=7∨((x.op:Nat):Int)=8∨((x.op:Nat):Int)=25∨((x.op:Nat):Int)=26
 · rw[Gl h3]at hf⊢
   obtain⟨a,b⟩:=dK h3 hp
   exact⟨a, .inr (.inr (.inr (.inr ⟨by omega,by omega,b⟩)))⟩
 have hs:Ui x:=by unfold Ui;omega
 obtain⟨p1,p2,p3,p4,p5⟩:=iP (s:=s) (d:=d) hs hops hp
 obtain⟨k1,k2,k3,k4⟩:=aB (s:=s) (d:=d) hs
 refine⟨⟨p1,p2,p4,by rw[k1],fun h=>by rw[k1];exact h,fun h=>by rw[k2];exact h,fun h=>by rw[k3];exact h,by rw[k4];omega,by rw[p3];omega⟩,?_⟩
 rcases p5 with h|h|h|h
 ·exact .inl h
 ·exact .inr (.inl h)
 ·exact .inr (.inr (.inl h))
 ·exact .inr (.inr (.inr (.inr h)))
structure aBg(T:List Int)(n mv nt k:Nat)(d:Dv):Prop where
 next:0≤d.next∧d.next≤n
 here:d.next<n→T[d.next.toNat]?=some (d.stack.length:Int)
 vars:d.vars.length=mv
 cost:0≤d.cost∧d.cost≤200
 tabs:d.tabs.length=nt
 good:∀t∈d.tabs,Good t
 disk:Good d.disk
 sends:0≤d.sends∧d.sends≤8
 disks:0≤d.disks∧d.disks≤k
 effs:d.effs.length≤k
 few:k≤1048576
theorem mQ{pr:Int}{nc:Nat}{x:Ins}(h:Gn pr nc x=true)(h1:(x.op:Int)=30∨(x.op:Int)=31):0≤x.n∧x.n≤4:=by
 unfold Gn at h
 simp only[aFd]at h
 obtain⟨_,hr⟩:=h
 rw[aEa om,aEa om]at hr
 by_cases hb:((x.op:Int)=30∨(x.op:Int)=31)∧(x.b<0∨63<x.b∨x.n<0∨4<x.n)
 ·rw[aEh hb]at hr;cases hr
 ·omega
theorem KU{s:Sm}{pr st:Int}{mv nt:Nat}{T:List Int}(hst:st≤64)(hform:∀x∈s.code,Gn pr s.code.length x=true)(hT:∀k x,s.code[k]?=some x→∃m,QP T st k x m)(href:∀x∈s.code,Fq x mv nt s.flags.length=true)(hpr:(s.args.length:Int)=pr)
    (hasc:xA s.fail) (hfl:s.fail.length≤1000000) (hds:0≤s.dsk∧s.dsk≤1000000000):jA s (aBg T s.code.length mv nt) where
 next k d h:=h.next.1
 effs k d h:=by have:=h.effs;have:=h.few;omega
 fit k d x h hx:=by
  have hxm:=mog hx
  have hlt:d.next<s.code.length:=by have:=(aEc.1 hx).1;have:=h.next;omega
  obtain⟨m,hm⟩:=hT _ x hx
  have e1:=h.here hlt
  have hmm:m=(d.stack.length:Int):=by have:=hm.here;rw[e1]at this;exact(aEn this).symm
  have hf:=hform x hxm
  have hr:=href x hxm
  have hfo:=iO hf
  have hfa:= @KE _ _ _ hf
  have hmt:=hm.top
  have hmp:=hm.pops
  have hdk:=h.disks
  have hef:=h.effs
  have hfw:=h.few
  refine⟨⟨fun ho=>?_,fun ho=>?_,fun ho=>?_,fun ho=>?_,fun ho=>mQ hf ho,hfo,?_,?_,h.cost⟩,⟨h.good,h.disk,hasc,hfl,?_,h.sends,?_,hds⟩⟩
  · unfold Fq at hr
    rw[aEh ho]at hr
    have a2:=aGc hr
    have a3:=(hfa om).1 om
    exact⟨a3.1,by show x.a<(d.vars.length:Int);rw[h.vars];exact a2⟩
  ·have:=(hfa om).2 ho;omega
  · unfold Fq at hr
    rw[aEa om,aEh ho]at hr
    have a2:=aGc hr
    have a3:=(hfa om).1 om
    omega
  · unfold Fq at hr
    rw[aEa om,aEa om,aEh ho]at hr
    have a2:=aGc hr
    have a3:=(hfa om).1 om
    exact⟨a3.1,by show x.a<(d.tabs.length:Int);rw[h.tabs];exact a2⟩
  ·show Fx x≤(d.stack.length:Int);omega
  ·show d.stack.length≤4001;omega
  ·show d.effs.length≤2000000;omega
  ·show 0≤d.disks∧d.disks≤2000000;omega
 step k d x h hk hx hflt:=by
  have hxm:=mog hx
  have hlt:d.next<s.code.length:=by have:=(aEc.1 hx).1;have:=h.next;omega
  obtain⟨m,hm⟩:=hT _ x hx
  have e1:=h.here hlt
  have hmm:m=(d.stack.length:Int):=by have:=hm.here;rw[e1]at this;exact(aEn this).symm
  have hf:=hform x hxm
  have hfo:=iO hf
  have hff:=Yf hf
  have hnx:=h.next
  have hdk:=h.disks
  have hef:=h.effs
  obtain⟨P,p5⟩:=tJ (s:=s) (d:={d with next:=d.next+1}) hfo (fun ho=>mQ hf ho) (by show Fx x≤(d.stack.length:Int);have:=hm.pops;omega) hflt
  have p1:((Bj s x {d with next:=d.next+1}).stack.length:Int)=Mi m x:=by rw[P.stack,hmm]
  have hn1:((x.op:Nat):Int)≠27→((x.op:Nat):Int)≠34→T[(d.next+1).toNat]?=some (Mi m x):=fun a b=>by rw[show(d.next+1).toNat=d.next.toNat+1 from by omega];exact hm.next a b
  have htg:((x.op:Nat):Int)=27∨((x.op:Nat):Int)=28→tgt x=some x.a:=fun a=>by unfold tgt;rw[aEh a]
  have htg2:((x.op:Nat):Int)=32∨((x.op:Nat):Int)=33→tgt x=some x.b:=fun a=>by unfold tgt;rw[aEa om,aEh a]
  have pd:d.disks≤(Bj s x {d with next:=d.next+1}).disks∧(Bj s x {d with next:=d.next+1}).disks≤d.disks+1:=P.disks
  have pe:(Bj s x {d with next:=d.next+1}).effs.length≤d.effs.length+1:=P.effs
  refine⟨?_,?_,P.vars.trans h.vars,P.cost h.cost,P.tabs.trans h.tabs,P.good h.good,P.disk h.disk,P.sends h.sends,by omega,by omega,by omega⟩
  · rcases p5 with⟨a,b⟩|⟨a,b|b⟩|⟨a,b⟩|⟨a,b⟩|⟨a,b,c⟩
    ·rw[htg (.inl a)]at hff;simp only[Option.getD_some]at hff;rw[b];omega
    ·rw[htg (.inr a)]at hff;simp only[Option.getD_some]at hff;rw[b];omega
    ·rw[b];show 0≤d.next+1∧d.next+1≤(s.code.length:Int);omega
    ·rw[b];omega
    ·rw[htg2 a]at hff;simp only[Option.getD_some]at hff;rw[b];omega
    ·rw[c];show 0≤d.next+1∧d.next+1≤(s.code.length:Int);omega
  · intro hlt2
    rw[p1]
    rcases p5 with⟨a,b⟩|⟨a,b|b⟩|⟨a,b⟩|⟨a,b⟩|⟨a,b,c⟩
    ·rw[b];exact hm.jump _ (htg (.inl a))
    ·rw[b];exact hm.jump _ (htg (.inr a))
    ·rw[b];exact hn1 om om
    ·rw[b]at hlt2;exact absurd hlt2 (Int.lt_irrefl _)
    ·rw[b];exact hm.jump _ (htg2 a)
    ·rw[c];exact hn1 a b
abbrev d0G(V:List Int)(tb:List (List (Int×Int)))(dk:List (Int×Int)):Dv:=⟨V,tb,dk,[],0,[],0,0,0,false⟩
theorem pR{s:Sm}{pr st:Int}{V:List Int}{tb:List (List (Int×Int))}{dk:List (Int×Int)}(hv:Kg pr st s.code=0)(href:∀x∈s.code,Fq x V.length tb.length s.flags.length=true)(hpr:(s.args.length:Int)=pr)
    (hasc:xA s.fail) (hfl:s.fail.length≤1000000) (hds:0≤s.dsk∧s.dsk≤1000000000) (hgt:∀t∈tb,Good t) (hgd:Good dk):∃I:Nat→Dv→Prop,jA s I∧I 0 (d0G V tb dk):=by
 obtain⟨h1,h2,h3,h4,T,h5,h6,h7⟩:=sI hv
 refine⟨aBg T s.code.length V.length tb.length,KU h1 h4 h5 href hpr hasc hfl hds,⟨⟨Int.le_refl _,Int.natCast_nonneg _⟩,fun hlt=>?_,rfl,(show(0:Int)≤0∧(0:Int)≤200 by decide),rfl,hgt,hgd,(show(0:Int)≤0∧(0:Int)≤8 by decide),(show(0:Int)≤0∧(0:Int)≤((0:Nat):Int) by decide),aEu _,aEw _⟩⟩
 rcases h7 with h7|h7
 ·rw[h7]at hlt;simp at hlt
 ·exact h7
end Go.Proofs.YtlihklladkagpaaGreatDoor

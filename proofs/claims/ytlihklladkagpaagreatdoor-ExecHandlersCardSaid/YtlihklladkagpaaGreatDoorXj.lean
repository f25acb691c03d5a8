/- Own text. -/
import Derived.Test.YtlihklladkagpaaGreatDoorXi
set_option linter.unusedVariables false
set_option linter.unusedSimpArgs false
set_option maxHeartbeats 2000000
set_option maxRecDepth 100000
namespace Go.Proofs.YtlihklladkagpaaGreatDoor
open Go.Proofs.Tryz
open Go.RowKit Go.Flow Go.Mem Go.Sep
structure Okr(s:Sm)(d:Dv):Prop where
 tabs:∀t∈d.tabs,Good t
 disk:Good d.disk
 fail:s.fail.length≤1000000
 effs:d.effs.length≤2000000
 sends:0≤d.sends∧d.sends≤8
 disks:0≤d.disks∧d.disks≤2000000
 dsk:0≤s.dsk∧s.dsk≤1000000000
theorem Jo{l:List Int}(h:0<l.length):(l.drop (l.length-1))[0]?=some (l.getLastD 0):=by rw[aGl,aGm];exact last_at h
theorem Xg{l:List Int}(h:2≤l.length):(l.drop (l.length-2))[1]?=some (l.getLastD 0):=by rw[aGl,show l.length-2+1=l.length-1 by omega];exact last_at om
theorem Xh{l:List Int}(h:2≤l.length):(l.drop (l.length-2))[0]?=some (l.dropLast.getLastD 0):=by
 have h1:=last_at (l:=l.dropLast) (by rw[aEf];omega)
 rw[aEf,List.getElem?_dropLast,aEh om]at h1
 rw[aGl,aGm,show l.length-2=l.length-1-1 by omega];exact h1
theorem tk1(l:List Int):l.take (l.length-1)=l.dropLast:=(List.dropLast_eq_take).symm
theorem tk2(l:List Int):l.take (l.length-2)=l.dropLast.dropLast:=by
 rw[←tk1,←tk1,aEe,List.take_take]
 congr 1;omega
theorem UD(b:Nat)(s:Sm)(d:Dm)(x:Ins)(hop:1≤((x.op:Nat):Int)∧((x.op:Nat):Int)≤10)(hf:Fit s x d.val)(ho:Okr s d.val):
    Dz 64 [pv b, .agg (Uj x).toArray] [box b (cQ s d) 136,rows encI 2 1 d.Av d.qv d.vars,rows Tb.cells 58 1 d.At d.qt d.tabs,De Be (d.tabs.map Tb.ar),ros Be d.dk.A d.dk.l,rows Dp 131 8 d.Ae d.qe d.effs,De encI (d.effs.map Ef.ar),rows encI 2 1 d.As d.qs d.stack,ros encI s.Aa s.args,ros Qv s.Ag s.flags] (fun r Γ'=>r= .tuple #[]∧∃d':Dm,Γ'=[box b (cQ s d') 136,rows encI 2 1 d'.Av d'.qv d'.vars,rows Tb.cells 58 1 d'.At d'.qt d'.tabs,De Be (d'.tabs.map Tb.ar),ros Be d'.dk.A d'.dk.l,rows Dp 131 8 d'.Ae d'.qe d'.effs,De encI (d'.effs.map Ef.ar),rows encI 2 1 d'.As d'.qs d'.stack]∧d'.val=Bj s x d.val):=by
 have hht:d.stack.length≤4001:=hf.height
 have hpp:Fx x≤((d.stack.length:Nat):Int):=hf.pops
 have hpo:=Ql x
 have hvar:((x.op:Nat):Int)=2∨((x.op:Nat):Int)=24∨((x.op:Nat):Int)=33→0≤x.a∧x.a<((d.vars.length:Nat):Int):=hf.var
 have htb:((x.op:Nat):Int)=6∨((x.op:Nat):Int)=7∨((x.op:Nat):Int)=8∨((x.op:Nat):Int)=25∨((x.op:Nat):Int)=26→0≤x.a∧x.a<((d.tabs.length:Nat):Int):=fun h=>by
  have:=hf.tab h
  have e:d.val.tabs.length=d.tabs.length:=by show(d.tabs.map Tb.l).length=_;rw[aEg]
  rw[e]at this;exact this
 refine Am func64 ntmps64 fun w0=>?_
 refine Js (To.g (Jbo fun b3=>?_))
 refine Jz 8 ?_
 refine Jr (Ij (i:=1) (us:=[vs d.Av d.vars d.qv,vs d.At d.tabs d.qt,vs d.dk.A d.dk.l d.dk.q]) rfl rfl r60 rfl (Fh (n:=3) rfl) rfl) ?_
 refine Jal fun b4=>?_
 refine Jz 16 ?_
 refine Jcp rfl ?_ ?_<;>intro k16
 refine Jz 4 ?_
 refine Jcf [2,8] (Ms b s d x.n (by first|omega|(simp only[lap,aEf,lc1,ln0,aEe];omega))) ?_
 rintro _ _ ⟨rfl,As,qs,rfl⟩
 refine Jn (Jbn (Fy (Gu (Dl (Cu (Cj (Cj (Cj (Cj (Cj (Cj (Ej (Co (.inr rfl) results64 ?_)))))))))))))
 exact⟨rfl,(⟨d.Av,d.qv,d.vars,d.At,d.qt,d.tabs,⟨d.dk.A,d.dk.q,d.dk.l⟩,d.Ae,d.qe,d.effs,d.cost,As,qs,(d.stack++[x.n]),d.next,d.sends,d.disks,d.fault⟩:Dm),rfl,by first|(simp[Bj,Gb,unV,Dm.val,tk1,-List.getLastD_eq_getLast?,k16];done)|(simp[Bj,Gb,unV,Dm.val,tk1,-List.getLastD_eq_getLast?,k16];rfl)⟩
 refine Jz 6 ?_
 refine Jcp rfl ?_ ?_<;>intro k22
 obtain⟨ka,hka⟩:∃ka:Nat,x.a=((ka:Nat):Int):=⟨x.a.toNat,by have:=hvar om;omega⟩
 have hkl:ka<d.vars.length:=by have:=hvar om;omega
 obtain⟨y,hel2⟩:=exg d.vars ka om
 have hgd:d.vars[x.a.toNat]?=some y:=by rw[hka,Int.toNat_natCast];exact hel2
 refine Jz 6 ?_
 refine Jr (Gt (i:=3) (j:=ka) rfl rfl rfl hka s28 rfl hel2) ?_
 refine Jz 1 ?_
 refine Jcf [2,8] (Ms b s d y (by first|omega|(simp only[lap,aEf,lc1,ln0,aEe];omega))) ?_
 rintro _ _ ⟨rfl,As_2,qs_2,rfl⟩
 refine Jn (Jbn (Fy (Gu (Dl (Cu (Cj (Cj (Cj (Cj (Cj (Cj (Ej (Co (.inr rfl) results64 ?_)))))))))))))
 exact⟨rfl,(⟨d.Av,d.qv,d.vars,d.At,d.qt,d.tabs,⟨d.dk.A,d.dk.q,d.dk.l⟩,d.Ae,d.qe,d.effs,d.cost,As_2,qs_2,(d.stack++[y]),d.next,d.sends,d.disks,d.fault⟩:Dm),rfl,by first|(simp[Bj,Gb,unV,Dm.val,tk1,-List.getLastD_eq_getLast?,k22,hgd];done)|(simp[Bj,Gb,unV,Dm.val,tk1,-List.getLastD_eq_getLast?,k22,hgd];rfl)⟩
 refine Jz 6 ?_
 refine Jcp rfl ?_ ?_<;>intro k32
 obtain⟨ka,hka⟩:∃ka:Nat,x.a=((ka:Nat):Int):=⟨x.a.toNat,by have:=hf.par om;omega⟩
 have hkl:ka<s.args.length:=by have:=hf.par om;omega
 obtain⟨y,hel2⟩:=exg s.args ka om
 have hgd:s.args[x.a.toNat]?=some y:=by rw[hka,Int.toNat_natCast];exact hel2
 refine Jfw [] [0,1,2,3,4,6,105,107,108,109,510] (ocn _) ?_
 refine Jz 8 ?_
 refine Fw.r rfl (Ow Cy (i:=10) (j:=ka) rfl rfl rfl hka s28 rfl hel2) ?_
 refine Jz 1 ?_
 refine Da [2,8] (Ms b s d y (by first|omega|(simp only[lap,aEf,lc1,ln0,aEe];omega))) ?_
 rintro _ _ ⟨rfl,As_3,qs_3,rfl⟩
 refine⟨ocn _,?_⟩
 refine Jz 2 ?_
 refine Fy (Gu (Dl (Cu (Cj (Cj (Cj (Cj (Cj (Cj (Ej (Co (.inr rfl) results64 ?_)))))))))))
 exact⟨rfl,(⟨d.Av,d.qv,d.vars,d.At,d.qt,d.tabs,⟨d.dk.A,d.dk.q,d.dk.l⟩,d.Ae,d.qe,d.effs,d.cost,As_3,qs_3,(d.stack++[y]),d.next,d.sends,d.disks,d.fault⟩:Dm),rfl,by first|(simp[Bj,Gb,unV,Dm.val,tk1,-List.getLastD_eq_getLast?,k32,hgd];done)|(simp[Bj,Gb,unV,Dm.val,tk1,-List.getLastD_eq_getLast?,k32,hgd];rfl)⟩
 refine Jz 6 ?_
 refine Jcp rfl ?_ ?_<;>intro k45
 obtain⟨ka,hka⟩:∃ka:Nat,x.a=((ka:Nat):Int):=⟨x.a.toNat,by have:=hf.flag om;omega⟩
 have hkl:ka<s.flags.length:=by have:=hf.flag om;omega
 obtain⟨y,hel2⟩:=exg s.flags ka om
 have hgd:s.flags[x.a.toNat]?=some y:=by rw[hka,Int.toNat_natCast];exact hel2
 refine Jfw [] [0,1,2,3,4,6,105,107,108,109,310,511] (ocn _) ?_
 refine Jz 8 ?_
 refine Fw.r rfl (Ow oW (i:=11) (j:=ka) rfl rfl rfl hka s61 rfl hel2) ?_
 refine Jz 1 ?_
 refine Fw.qf (Qj y) (ocn _) ?_
 refine Da [2,8] (Ms b s d (tru y) (by first|omega|(simp only[lap,aEf,lc1,ln0,aEe];omega))) ?_
 rintro _ _ ⟨rfl,As_4,qs_4,rfl⟩
 refine⟨ocn _,?_⟩
 refine Jz 2 ?_
 refine Fy (Gu (Dl (Cu (Cj (Cj (Cj (Cj (Cj (Cj (Ej (Co (.inr rfl) results64 ?_)))))))))))
 exact⟨rfl,(⟨d.Av,d.qv,d.vars,d.At,d.qt,d.tabs,⟨d.dk.A,d.dk.q,d.dk.l⟩,d.Ae,d.qe,d.effs,d.cost,As_4,qs_4,(d.stack++[tru y]),d.next,d.sends,d.disks,d.fault⟩:Dm),rfl,by first|(simp[Bj,Gb,unV,Dm.val,tk1,-List.getLastD_eq_getLast?,k45,hgd];done)|(simp[Bj,Gb,unV,Dm.val,tk1,-List.getLastD_eq_getLast?,k45,hgd];rfl)⟩
 refine Jz 6 ?_
 refine Jcp rfl ?_ ?_<;>intro k59
 refine Jz 7 ?_
 refine Jcf [2,8] (Ms b s d s.now (by first|omega|(simp only[lap,aEf,lc1,ln0,aEe];omega))) ?_
 rintro _ _ ⟨rfl,As_5,qs_5,rfl⟩
 refine Jn (Jbn (Fy (Gu (Dl (Cu (Cj (Cj (Cj (Cj (Cj (Cj (Ej (Co (.inr rfl) results64 ?_)))))))))))))
 exact⟨rfl,(⟨d.Av,d.qv,d.vars,d.At,d.qt,d.tabs,⟨d.dk.A,d.dk.q,d.dk.l⟩,d.Ae,d.qe,d.effs,d.cost,As_5,qs_5,(d.stack++[s.now]),d.next,d.sends,d.disks,d.fault⟩:Dm),rfl,by first|(simp[Bj,Gb,unV,Dm.val,tk1,-List.getLastD_eq_getLast?,k59];done)|(simp[Bj,Gb,unV,Dm.val,tk1,-List.getLastD_eq_getLast?,k59];rfl)⟩
 refine Jz 6 ?_
 refine Jcp rfl ?_ ?_<;>intro k68
 refine Js ?_
 obtain⟨ka,hka⟩:∃ka:Nat,x.a=((ka:Nat):Int):=⟨x.a.toNat,by have:=htb om;omega⟩
 have hkl:ka<d.tabs.length:=by have:=htb om;omega
 obtain⟨t,ht⟩:=exg d.tabs ka om
 have htm:=mog ht
 have hg:Good t.l:=ho.tabs t.l (aEv.2 ⟨t,htm,rfl⟩)
 have hgl:=hg.len
 have hgd:d.val.tabs.getD x.a.toNat []=t.l:=by rw[hka,Int.toNat_natCast,aEx];show((d.tabs.map Tb.l)[ka]?).getD []=t.l;rw[aEp,ht];rfl
 refine Jfw [box b3 [nv x.op,iv x.a,iv x.b,iv x.n] 129,box b4 [vs d.Av d.vars d.qv,vs d.At d.tabs d.qt,vs d.dk.A d.dk.l d.dk.q] 60,rows Tb.cells 58 1 d.At d.qt d.tabs] [0,1,2,3,4,5,6,507,108,109,310,11,12,13,14,15] (ocs (oca 1 rfl) (ocs (oca 0 rfl) (ocs (oca 4 rfl) (ocn _)))) ?_
 refine Jz 4 ?_
 refine Fw.f rfl (Gt (i:=2) (j:=ka) rfl rfl rfl hka s57 rfl ht) ?_
 refine Jz 2 ?_
 refine Da [2,8] (Mc b s d 1 (by first|omega|(simp only[lap,aEf,lc1,ln0,aEe];omega))) ?_
 rintro _ _ ⟨Bp,qp,rfl,rfl⟩
 refine⟨ocs (oca 4 rfl) (ocs (oca 3 rfl) (ocs (oca 6 rfl) (ocn _))),?_⟩
 refine Fw.r rfl (Ga (i:=2) (j:=0) rfl rfl rfl s28 rfl (Jo om)) ?_
 refine Fw.r rfl (Ck (i:=2) rfl rfl c2 rfl (Dc (rwg Cy (Jo om)) rfl)) ?_
 refine Fw.qf (fP t.A t.q t.l (d.stack.getLastD 0) om) (ocs (dB 7 rfl (Ou ht Tb.ar)) (ocn _)) ?_
 refine Jz 10 ?_
 refine Jcf [0,0] (Ms b s (⟨d.Av,d.qv,d.vars,d.At,d.qt,d.tabs,⟨d.dk.A,d.dk.q,d.dk.l⟩,d.Ae,d.qe,d.effs,d.cost,d.As,d.qs,(d.stack.take (d.stack.length-1)),d.next,d.sends,d.disks,d.fault⟩:Dm) ((Fp t.l (d.stack.getLastD 0)).getD 0) (by first|omega|(simp only[lap,aEf,lc1,ln0,aEe];omega))) ?_
 rintro _ _ ⟨rfl,As_6,qs_6,rfl⟩
 refine Jn (Jbn (Iw (Fy (Er (Dl (Cu (Cj (Cj (Cj (Cj (Cj (Cj (Ej (Co (.inr rfl) results64 ?_))))))))))))))
 exact⟨rfl,(⟨d.Av,d.qv,d.vars,d.At,d.qt,d.tabs,⟨d.dk.A,d.dk.q,d.dk.l⟩,d.Ae,d.qe,d.effs,d.cost,As_6,qs_6,((d.stack.take (d.stack.length-1))++[(Fp t.l (d.stack.getLastD 0)).getD 0]),d.next,d.sends,d.disks,d.fault⟩:Dm),rfl,by rw[Gl om];unfold Gb;simp only[hgd];rw[aEh (show((x.op:Nat):Int)=6 by omega)];first|rfl|(simp[Dm.val,tk1,-List.getLastD_eq_getLast?];done)⟩
 refine Jz 6 ?_
 refine Jcp rfl ?_ ?_<;>intro k87
 refine Js ?_
 obtain⟨ka,hka⟩:∃ka:Nat,x.a=((ka:Nat):Int):=⟨x.a.toNat,by have:=htb om;omega⟩
 have hkl:ka<d.tabs.length:=by have:=htb om;omega
 obtain⟨t,ht⟩:=exg d.tabs ka om
 have htm:=mog ht
 have hg:Good t.l:=ho.tabs t.l (aEv.2 ⟨t,htm,rfl⟩)
 have hgl:=hg.len
 have hgd:d.val.tabs.getD x.a.toNat []=t.l:=by rw[hka,Int.toNat_natCast,aEx];show((d.tabs.map Tb.l)[ka]?).getD []=t.l;rw[aEp,ht];rfl
 refine Jfw [box b3 [nv x.op,iv x.a,iv x.b,iv x.n] 129,box b4 [vs d.Av d.vars d.qv,vs d.At d.tabs d.qt,vs d.dk.A d.dk.l d.dk.q] 60,rows Tb.cells 58 1 d.At d.qt d.tabs] [0,1,2,3,4,5,6,507,108,109,310,11,12,13,14,15] (ocs (oca 1 rfl) (ocs (oca 0 rfl) (ocs (oca 4 rfl) (ocn _)))) ?_
 refine Jz 4 ?_
 refine Fw.f rfl (Gt (i:=2) (j:=ka) rfl rfl rfl hka s57 rfl ht) ?_
 refine Jz 2 ?_
 refine Da [2,8] (Mc b s d 1 (by first|omega|(simp only[lap,aEf,lc1,ln0,aEe];omega))) ?_
 rintro _ _ ⟨Bp_2,qp_2,rfl,rfl⟩
 refine⟨ocs (oca 4 rfl) (ocs (oca 3 rfl) (ocs (oca 6 rfl) (ocn _))),?_⟩
 refine Fw.r rfl (Ga (i:=2) (j:=0) rfl rfl rfl s28 rfl (Jo om)) ?_
 refine Fw.r rfl (Ck (i:=2) rfl rfl c2 rfl (Dc (rwg Cy (Jo om)) rfl)) ?_
 refine Fw.qf (fP t.A t.q t.l (d.stack.getLastD 0) om) (ocs (dB 7 rfl (Ou ht Tb.ar)) (ocn _)) ?_
 refine Jz 10 ?_
 refine Jvf (Qj ((Fp t.l (d.stack.getLastD 0)).isSome)) rfl (ocn _) ?_
 refine Jcf [0,0] (Ms b s (⟨d.Av,d.qv,d.vars,d.At,d.qt,d.tabs,⟨d.dk.A,d.dk.q,d.dk.l⟩,d.Ae,d.qe,d.effs,d.cost,d.As,d.qs,(d.stack.take (d.stack.length-1)),d.next,d.sends,d.disks,d.fault⟩:Dm) (tru ((Fp t.l (d.stack.getLastD 0)).isSome)) (by first|omega|(simp only[lap,aEf,lc1,ln0,aEe];omega))) ?_
 rintro _ _ ⟨rfl,As_7,qs_7,rfl⟩
 refine Jn (Jbn (Iw (Fy (Er (Dl (Cu (Cj (Cj (Cj (Cj (Cj (Cj (Ej (Co (.inr rfl) results64 ?_))))))))))))))
 exact⟨rfl,(⟨d.Av,d.qv,d.vars,d.At,d.qt,d.tabs,⟨d.dk.A,d.dk.q,d.dk.l⟩,d.Ae,d.qe,d.effs,d.cost,As_7,qs_7,((d.stack.take (d.stack.length-1))++[tru ((Fp t.l (d.stack.getLastD 0)).isSome)]),d.next,d.sends,d.disks,d.fault⟩:Dm),rfl,by rw[Gl om];unfold Gb;simp only[hgd];rw[aEa (show¬((x.op:Nat):Int)=6 by omega),aEh (show((x.op:Nat):Int)=7 by omega)];first|rfl|(simp[Dm.val,tk1,-List.getLastD_eq_getLast?];done)⟩
 refine Jz 6 ?_
 refine Jcp rfl ?_ ?_<;>intro k107
 obtain⟨ka,hka⟩:∃ka:Nat,x.a=((ka:Nat):Int):=⟨x.a.toNat,by have:=htb om;omega⟩
 have hkl:ka<d.tabs.length:=by have:=htb om;omega
 obtain⟨t,ht⟩:=exg d.tabs ka om
 have htm:=mog ht
 have hg:Good t.l:=ho.tabs t.l (aEv.2 ⟨t,htm,rfl⟩)
 have hgl:=hg.len
 have hgd:d.val.tabs.getD x.a.toNat []=t.l:=by rw[hka,Int.toNat_natCast,aEx];show((d.tabs.map Tb.l)[ka]?).getD []=t.l;rw[aEp,ht];rfl
 refine Jz 6 ?_
 refine Jr (Gt (i:=4) (j:=ka) rfl rfl rfl hka s57 rfl ht) ?_
 refine Jz 2 ?_
 refine Jcf [2,8] (Ms b s d ((t.l.length:Nat):Int) (by first|omega|(simp only[lap,aEf,lc1,ln0,aEe];omega))) ?_
 rintro _ _ ⟨rfl,As_8,qs_8,rfl⟩
 refine Jn (Jbn (Fy (Gu (Dl (Cu (Cj (Cj (Cj (Cj (Cj (Cj (Ej (Co (.inr rfl) results64 ?_)))))))))))))
 exact⟨rfl,(⟨d.Av,d.qv,d.vars,d.At,d.qt,d.tabs,⟨d.dk.A,d.dk.q,d.dk.l⟩,d.Ae,d.qe,d.effs,d.cost,As_8,qs_8,(d.stack++[((t.l.length:Nat):Int)]),d.next,d.sends,d.disks,d.fault⟩:Dm),rfl,by rw[Gl om];unfold Gb;simp only[hgd];rw[aEa (show¬((x.op:Nat):Int)=6 by omega),aEa (show¬((x.op:Nat):Int)=7 by omega),aEh (show((x.op:Nat):Int)=8 by omega)];first|rfl|(simp[Dm.val,tk1,-List.getLastD_eq_getLast?];done)⟩
 refine Jz 6 ?_
 refine Jcp rfl ?_ ?_<;>intro k118
 refine Jz 3 ?_
 refine Jcf [2,8] (Mc b s d 1 (by first|omega|(simp only[lap,aEf,lc1,ln0,aEe];omega))) ?_
 rintro _ _ ⟨Bp_3,qp_3,rfl,rfl⟩
 refine Jr (Ga (i:=2) (j:=0) rfl rfl rfl s28 rfl (Jo om)) ?_
 refine Jr (Ck (i:=2) rfl rfl c2 rfl (Dc (rwg Cy (Jo om)) rfl)) ?_
 refine Jr (eO rfl rfl) ?_
 refine Jcf [0,0] (Ms b s (⟨d.Av,d.qv,d.vars,d.At,d.qt,d.tabs,⟨d.dk.A,d.dk.q,d.dk.l⟩,d.Ae,d.qe,d.effs,d.cost,d.As,d.qs,(d.stack.take (d.stack.length-1)),d.next,d.sends,d.disks,d.fault⟩:Dm) (W64 (-(d.stack.getLastD 0))) (by first|omega|(simp only[lap,aEf,lc1,ln0,aEe];omega))) ?_
 rintro _ _ ⟨rfl,As_9,qs_9,rfl⟩
 refine Jn (Jbn (Iw (Fy (Er (Dl (Cu (Cj (Cj (Cj (Cj (Cj (Cj (Ej (Co (.inr rfl) results64 ?_))))))))))))))
 exact⟨rfl,(⟨d.Av,d.qv,d.vars,d.At,d.qt,d.tabs,⟨d.dk.A,d.dk.q,d.dk.l⟩,d.Ae,d.qe,d.effs,d.cost,As_9,qs_9,((d.stack.take (d.stack.length-1))++[W64 (-(d.stack.getLastD 0))]),d.next,d.sends,d.disks,d.fault⟩:Dm),rfl,by first|(simp[Bj,Gb,unV,Dm.val,tk1,-List.getLastD_eq_getLast?,k118];done)|(simp[Bj,Gb,unV,Dm.val,tk1,-List.getLastD_eq_getLast?,k118];rfl)⟩
 refine Jz 6 ?_
 refine Jcp rfl ?_ ?_<;>intro k127
 refine Jz 3 ?_
 refine Jcf [2,8] (Mc b s d 1 (by first|omega|(simp only[lap,aEf,lc1,ln0,aEe];omega))) ?_
 rintro _ _ ⟨Bp_4,qp_4,rfl,rfl⟩
 refine Jr (Ga (i:=2) (j:=0) rfl rfl rfl s28 rfl (Jo om)) ?_
 refine Jr (Ck (i:=2) rfl rfl c2 rfl (Dc (rwg Cy (Jo om)) rfl)) ?_
 refine To.eq ?_
 refine Jvf (Qj (decide ((d.stack.getLastD 0)=0))) rfl (ocn _) ?_
 refine Jcf [0,0] (Ms b s (⟨d.Av,d.qv,d.vars,d.At,d.qt,d.tabs,⟨d.dk.A,d.dk.q,d.dk.l⟩,d.Ae,d.qe,d.effs,d.cost,d.As,d.qs,(d.stack.take (d.stack.length-1)),d.next,d.sends,d.disks,d.fault⟩:Dm) (tru (decide ((d.stack.getLastD 0)=0))) (by first|omega|(simp only[lap,aEf,lc1,ln0,aEe];omega))) ?_
 rintro _ _ ⟨rfl,As_10,qs_10,rfl⟩
 refine Jn (Jbn (Iw (Fy (Er (Dl (Cu (Cj (Cj (Cj (Cj (Cj (Cj (Ej (Co (.inr rfl) results64 ?_))))))))))))))
 exact⟨rfl,(⟨d.Av,d.qv,d.vars,d.At,d.qt,d.tabs,⟨d.dk.A,d.dk.q,d.dk.l⟩,d.Ae,d.qe,d.effs,d.cost,As_10,qs_10,((d.stack.take (d.stack.length-1))++[tru (decide ((d.stack.getLastD 0)=0))]),d.next,d.sends,d.disks,d.fault⟩:Dm),rfl,by first|(simp[Bj,Gb,unV,Dm.val,tk1,-List.getLastD_eq_getLast?,k127];done)|(simp[Bj,Gb,unV,Dm.val,tk1,-List.getLastD_eq_getLast?,k127];rfl)⟩
 exfalso;omega
open Go.Sep
def rs(d:Dv):List Int×List (List (Int×Int))×List (Int×Int)×List EfV×Int:=(d.vars,d.tabs,d.disk,d.effs,d.cost)
def Jf(s:Sm)(x:Ins)(d:Dv)(a nx:Int)(e:Dv):Prop:=
 (((x.op:Nat):Int)=34∧e={d with fault:=true})∨
 (((x.op:Nat):Int)≠34∧(Bj s x {d with next:=a+1}).fault=true∧e.fault=true∧rs e=rs (Zu (Bj s x {d with next:=a+1})))∨
 (((x.op:Nat):Int)≠34∧(Bj s x {d with next:=a+1}).fault=false∧{e with next:=nx}=Bj s x {d with next:=a+1})
theorem Jf.good{s:Sm}{x:Ins}{d e:Dv}{a nx:Int}(h34:((x.op:Nat):Int)≠34)(hf:d.fault=false)(h:{e with next:=nx}=Bj s x {d with next:=a+1})(he:e.fault=d.fault):Jf s x d a nx e:=by
 refine .inr (.inr ⟨h34,?_,h⟩)
 rw[←h];exact he.trans hf
theorem GZ{s:Sm}{x:Ins}{d:Dv}(h:11≤((x.op:Nat):Int)∧((x.op:Nat):Int)≤23):Bj s x d={d with stack:=d.stack.dropLast.dropLast++[Ha x.op (d.stack.dropLast.getLastD 0) (d.stack.getLastD 0)]}:=by
 unfold Bj
 rw[aEa om,aEa om,aEa om,aEa om,aEa om,aEa om,aEa om,aEa om,aEa om,aEa om,aEa om,aEa om,aEa om,aEa om]
theorem OM{s:Sm}{x:Ins}{d:Dv}(h:((x.op:Nat):Int)=24):Bj s x d={d with stack:=d.stack.dropLast,vars:=d.vars.set x.a.toNat (d.stack.getLastD 0)}:=by
 unfold Bj
 rw[aEa om,aEa om,aEa om,aEa om,aEa om,aEa om,aEh h]
theorem OO{s:Sm}{x:Ins}{d:Dv}(h:((x.op:Nat):Int)=27):Bj s x d={d with next:=x.a}:=by
 unfold Bj
 rw[aEa om,aEa om,aEa om,aEa om,aEa om,aEa om,aEa om,aEh h]
theorem OP{s:Sm}{x:Ins}{d:Dv}(h:((x.op:Nat):Int)=28):Bj s x d={d with stack:=d.stack.dropLast,next:=if d.stack.getLastD 0=0 then x.a else d.next}:=by
 unfold Bj
 rw[aEa om,aEa om,aEa om,aEa om,aEa om,aEa om,aEa om,aEa om,aEh h]
theorem OQ{s:Sm}{x:Ins}{d:Dv}(h:((x.op:Nat):Int)=29):Bj s x d={d with fault:=decide (d.cost=200),cost:=min (d.cost+1) 200}:=by
 unfold Bj
 rw[aEa om,aEa om,aEa om,aEa om,aEa om,aEa om,aEa om,aEa om,aEa om,aEh h]
theorem CP{s:Sm}{x:Ins}{d:Dv}(h:((x.op:Nat):Int)=1):Bj s x d={d with stack:=d.stack++[x.n]}:=by
 unfold Bj
 rw[aEh h]
theorem CQ{s:Sm}{x:Ins}{d:Dv}(h:((x.op:Nat):Int)=2):Bj s x d={d with stack:=d.stack++[d.vars.getD x.a.toNat 0]}:=by
 unfold Bj
 rw[aEa om,aEh h]
theorem CR{s:Sm}{x:Ins}{d:Dv}(h:((x.op:Nat):Int)=3):Bj s x d={d with stack:=d.stack++[s.args.getD x.a.toNat 0]}:=by
 unfold Bj
 rw[aEa om,aEa om,aEh h]
theorem CS{s:Sm}{x:Ins}{d:Dv}(h:((x.op:Nat):Int)=4):Bj s x d={d with stack:=d.stack++[tru (s.flags.getD x.a.toNat false)]}:=by
 unfold Bj
 rw[aEa om,aEa om,aEa om,aEh h]
theorem CU{s:Sm}{x:Ins}{d:Dv}(h:((x.op:Nat):Int)=5):Bj s x d={d with stack:=d.stack++[s.now]}:=by
 unfold Bj
 rw[aEa om,aEa om,aEa om,aEa om,aEh h]
theorem vK{s:Sm}{x:Ins}{d:Dv}(h:((x.op:Nat):Int)=9∨((x.op:Nat):Int)=10):Bj s x d={d with stack:=d.stack.dropLast++[unV x.op (d.stack.getLastD 0)]}:=by
 unfold Bj
 rw[aEa om,aEa om,aEa om,aEa om,aEa om,aEh h]
theorem aU{p:Prop} [Decidable p]{a b a' b':Dv}{n:Int}(h1:a={a' with next:=n}∧a'.fault=false)(h2:b={b' with next:=n}∧b'.fault=false):(if p then a else b)={(if p then a' else b')with next:=n}∧(if p then a' else b').fault=false:=by split<;>assumption
theorem HV{s:Sm}{x:Ins}{d:Dv}{n:Int}(h:1≤((x.op:Nat):Int)∧((x.op:Nat):Int)≤10)(hf:d.fault=false):Bj s x {d with next:=n}={Bj s x d with next:=n}∧(Bj s x d).fault=false:=by
 by_cases h3:((x.op:Nat):Int)=6∨((x.op:Nat):Int)=7∨((x.op:Nat):Int)=8∨((x.op:Nat):Int)=25∨((x.op:Nat):Int)=26
 · rw[Gl h3,Gl h3]
   unfold Gb
   simp only[]
   exact aU ⟨rfl,hf⟩ (aU ⟨rfl,hf⟩ (aU ⟨rfl,hf⟩ (aU ⟨rfl,hf⟩ ⟨rfl,hf⟩)))
 · have hk:((x.op:Nat):Int)=1∨((x.op:Nat):Int)=2∨((x.op:Nat):Int)=3∨((x.op:Nat):Int)=4∨((x.op:Nat):Int)=5∨(((x.op:Nat):Int)=9∨((x.op:Nat):Int)=10):=om
   rcases hk with hk|hk|hk|hk|hk|hk
   ·rw[CP hk,CP hk];exact⟨rfl,hf⟩
   ·rw[CQ hk,CQ hk];exact⟨rfl,hf⟩
   ·rw[CR hk,CR hk];exact⟨rfl,hf⟩
   ·rw[CS hk,CS hk];exact⟨rfl,hf⟩
   ·rw[CU hk,CU hk];exact⟨rfl,hf⟩
   ·rw[vK hk,vK hk];exact⟨rfl,hf⟩
theorem yT{s:Sm}{x:Ins}{d e:Dv}{a:Int}(h:1≤((x.op:Nat):Int)∧((x.op:Nat):Int)≤10)(hf:d.fault=false)(hv:e=Bj s x d):Jf s x d a (a+1) e:=by
 obtain⟨h1,h2⟩:=HV (s:=s) (n:=a+1) h hf
 exact Jf.good om hf (by rw[h1,hv]) (by rw[hv,h2,hf])
theorem HY{s:Sm}{x:Ins}{d e:Dv}{a:Int}(h:11≤((x.op:Nat):Int)∧((x.op:Nat):Int)≤23)(hf:d.fault=false)(hv:e={d with stack:=d.stack.take (d.stack.length-2)++[Ha x.op (d.stack.dropLast.getLastD 0) (d.stack.getLastD 0)]}):Jf s x d a (a+1) e:=by
 rw[tk2]at hv
 exact Jf.good om hf (by rw[GZ h,hv]) (by rw[hv])
theorem OT{s:Sm}{x:Ins}{d e:Dv}{a:Int}(h:((x.op:Nat):Int)=24)(hf:d.fault=false)(hv:e={d with stack:=d.stack.take (d.stack.length-1),vars:=d.vars.set x.a.toNat (d.stack.getLastD 0)}):Jf s x d a (a+1) e:=by
 rw[tk1]at hv
 exact Jf.good om hf (by rw[OM h,hv]) (by rw[hv])
theorem HZ{x:Ins}{d:Dv}(h:((x.op:Nat):Int)=25):Gb x d={d with stack:=d.stack.dropLast.dropLast,tabs:=d.tabs.set x.a.toNat (Oq (d.tabs.getD x.a.toNat []) (d.stack.dropLast.getLastD 0) (d.stack.getLastD 0))}:=by
 unfold Gb
 exact(aEa om).trans ((aEa om).trans ((aEa om).trans (aEh h)))
theorem IA{x:Ins}{d:Dv}(h:((x.op:Nat):Int)=26):Gb x d={d with stack:=d.stack.dropLast,tabs:=d.tabs.set x.a.toNat (Im (d.tabs.getD x.a.toNat []) (d.stack.getLastD 0))}:=by
 unfold Gb
 exact(aEa om).trans ((aEa om).trans ((aEa om).trans (aEa om)))
theorem OU{s:Sm}{x:Ins}{d e:Dv}{a:Int}(h:((x.op:Nat):Int)=25)(hf:d.fault=false)(hv:e={d with stack:=d.stack.take (d.stack.length-2),tabs:=d.tabs.set x.a.toNat (Oq (d.tabs.getD x.a.toNat []) (d.stack.dropLast.getLastD 0) (d.stack.getLastD 0))}):Jf s x d a (a+1) e:=by
 rw[tk2]at hv
 exact Jf.good om hf (by rw[Gl om,HZ h,hv]) (by rw[hv])
theorem vL{s:Sm}{x:Ins}{d e:Dv}{a:Int}(h:((x.op:Nat):Int)=26)(hf:d.fault=false)(hv:e={d with stack:=d.stack.take (d.stack.length-1),tabs:=d.tabs.set x.a.toNat (Im (d.tabs.getD x.a.toNat []) (d.stack.getLastD 0))}):Jf s x d a (a+1) e:=by
 rw[tk1]at hv
 exact Jf.good om hf (by rw[Gl om,IA h,hv]) (by rw[hv])
theorem OV{s:Sm}{x:Ins}{d:Dv}{a:Int}(h:((x.op:Nat):Int)=27)(hf:d.fault=false):Jf s x d a x.a d:=Jf.good om hf (by rw[OO h]) rfl
theorem vM{s:Sm}{x:Ins}{d e:Dv}{a nx:Int}(h:((x.op:Nat):Int)=28)(hf:d.fault=false)(hv:e={d with stack:=d.stack.take (d.stack.length-1)})(hn:nx=if d.stack.getLastD 0=0 then x.a else a+1):Jf s x d a nx e:=by
 rw[tk1]at hv
 exact Jf.good om hf (by rw[OP h,hv,hn]) (by rw[hv])
theorem OW{s:Sm}{x:Ins}{d e:Dv}{a:Int}(h:((x.op:Nat):Int)=29)(hf:d.fault=false)(hc:0≤d.cost∧d.cost≤200)(hv:e=YS d):Jf s x d a (a+1) e:=by
 have e1:=OQ (s:=s) (d:={d with next:=a+1}) h
 unfold YS at hv
 by_cases c:200≤d.cost
 · rw[aEh c]at hv
   have c2:d.cost=200:=om
   refine .inr (.inl ⟨by omega,?_,by rw[hv];rfl,?_⟩)
   ·rw[e1];exact aEk c2
   · rw[e1,hv]
     show(d.vars,d.tabs,d.disk,d.effs++[Ph],d.cost)=(d.vars,d.tabs,d.disk,d.effs++[Ph],min (d.cost+1) 200)
     rw[c2];rfl
 · rw[aEa c]at hv
   refine .inr (.inr ⟨by omega,?_,?_⟩)
   ·rw[e1];exact aEo (by show¬d.cost=200;omega)
   · rw[e1,hv]
     show({d with cost:=d.cost+1,next:=a+1}:Dv)={d with next:=a+1,fault:=decide (d.cost=200),cost:=min (d.cost+1) 200}
     rw[aEo (show¬d.cost=200 by omega),show min (d.cost+1) 200=d.cost+1 by omega,←hf]
theorem kY{s:Sm}{x:Ins}{d e:Dv}{a:Int}{ef:EfV}{st:List Int}(h:((x.op:Nat):Int)=30∨((x.op:Nat):Int)=31)(hf:d.fault=false)(hs:0≤d.sends∧d.sends≤8)(hv:e=eB ef {d with stack:=st})
    (hg:d.sends≠8→Ps x {d with next:=a+1}={d with next:=a+1,sends:=d.sends+1,stack:=st,effs:=d.effs++[ef]}):Jf s x d a (a+1) e:=by
 have e1:=Qb (s:=s) (d:={d with next:=a+1}) h
 unfold eB at hv
 by_cases c:8≤d.sends
 · rw[aEh c]at hv
   have e2:=pQ (x:=x) (d:={d with next:=a+1}) (show d.sends=8 by omega)
   refine .inr (.inl ⟨by omega,?_,by rw[hv];rfl,?_⟩)
   ·rw[e1,e2]
   ·rw[e1,e2,hv];rfl
 · rw[aEa c]at hv
   have e2:=hg om
   refine .inr (.inr ⟨by omega,?_,?_⟩)
   ·rw[e1,e2];exact hf
   ·rw[e1,e2,hv]
theorem OX{s:Sm}{x:Ins}{d e:Dv}{a:Int}{kn:Nat}(h:((x.op:Nat):Int)=30)(hf:d.fault=false)(hs:0≤d.sends∧d.sends≤8)(hkn:x.n=((kn:Nat):Int))(hv:e=eB ⟨1,x.a,x.b,0,0,0,false,d.stack.drop (d.stack.length-kn)⟩ {d with stack:=d.stack.take (d.stack.length-kn)}):Jf s x d a (a+1) e:=
 kY (.inl h) hf hs hv fun h8=>by
  rw[jD (d:={d with next:=a+1}) h8 om,hkn,Int.toNat_natCast]
theorem OY{s:Sm}{x:Ins}{d e:Dv}{a:Int}{kn:Nat}(h:((x.op:Nat):Int)=31)(hf:d.fault=false)(hs:0≤d.sends∧d.sends≤8)(hkn:x.n=((kn:Nat):Int))(ha:x.a=0)(hl:kn<d.stack.length)(hv:e=eB ⟨2,0,x.b,(d.stack.drop (d.stack.length-(kn+1))).headD 0,0,0,false,(d.stack.drop (d.stack.length-(kn+1))).drop 1⟩ {d with stack:=d.stack.take (d.stack.length-(kn+1))}):Jf s x d a (a+1) e:=
 kY (.inr h) hf hs hv fun h8=>by
  rw[jC (d:={d with next:=a+1}) h8 h,hkn,Int.toNat_natCast,ha]
  have e1:(d.stack.take (d.stack.length-kn)).dropLast=d.stack.take (d.stack.length-(kn+1)):=by
   rw[List.dropLast_eq_take,aEe,List.take_take]
   congr 1;omega
  have e2:(d.stack.drop (d.stack.length-(kn+1))).drop 1=d.stack.drop (d.stack.length-kn):=by
   rw[List.drop_drop];congr 1;omega
  have e3:(d.stack.take (d.stack.length-kn)).getLastD 0=(d.stack.drop (d.stack.length-(kn+1))).headD 0:=by
   rw[aGs,List.getLast?_eq_getElem?,aEe,List.headD_eq_head?_getD,List.head?_drop]
   rw[aGk om,show min (d.stack.length-kn) d.stack.length-1=d.stack.length-(kn+1) by omega]
  show({d with next:=a+1,sends:=d.sends+1,stack:=(d.stack.take (d.stack.length-kn)).dropLast,effs:=d.effs++[⟨2,0,x.b,(d.stack.take (d.stack.length-kn)).getLastD 0,0,0,false,d.stack.drop (d.stack.length-kn)⟩]}:Dv)=_
  rw[e1,e2,e3]
theorem vN{s:Sm}{x:Ins}{d e:Dv}{a nx:Int}(h:((x.op:Nat):Int)=32)(hf:d.fault=false)(hv:e=rC s (d.stack.dropLast.getLastD 0) (d.stack.getLastD 0) {d with stack:=d.stack.take (d.stack.length-2)})(hn:nx=if decide (s.dsk+d.disks∈s.fail)=true then x.b else a+1):Jf s x d a nx e:=by
 rw[tk2]at hv
 refine Jf.good om hf ?_ (by rw[hv];rfl)
 rw[Ml (.inl h),jE h,hv,hn]
 rfl
theorem vO{s:Sm}{x:Ins}{d e:Dv}{a nx:Int}{ka:Nat}(h:((x.op:Nat):Int)=33)(hf:d.fault=false)(hka:x.a=((ka:Nat):Int))(hv:e=kX s ka (d.stack.getLastD 0) {d with stack:=d.stack.take (d.stack.length-1)})(hn:nx=if decide (s.dsk+d.disks∈s.fail)=true then x.b else a+1):Jf s x d a nx e:=by
 rw[tk1]at hv
 unfold kX at hv
 by_cases c:s.dsk+d.disks∈s.fail
 · rw[aEh (aEk c)]at hv
   rw[aEh (aEk c)]at hn
   refine Jf.good om hf ?_ (by rw[hv])
   rw[Ml (.inr h),bN (x:=x) (d:={d with next:=a+1}) om c,hv,hn]
 · rw[aEa (by rw[aEo c];decide)]at hv
   rw[aEa (by rw[aEo c];decide)]at hn
   refine Jf.good om hf ?_ (by rw[hv])
   rw[Ml (.inr h),bO (x:=x) (d:={d with next:=a+1}) om c,hv,hn,hka,Int.toNat_natCast]
theorem OZ{s:Sm}{x:Ins}{d e:Dv}{a nx:Int}(h:((x.op:Nat):Int)=34)(hv:e={d with fault:=true}):Jf s x d a nx e:= .inl ⟨h,hv⟩
open Go.RowKit Go.Flow Go.Mem Go.Sep
theorem PD(b:Nat)(s:Sm)(d:Dm)(e:Ef)(hel:d.effs.length≤4000000)(hs:0≤d.sends∧d.sends≤8):
    Dz 71 [pv b, .agg #[iv e.k,iv e.to,iv e.h,iv e.d,iv e.key,iv e.v, .bool e.f,vs e.A e.args e.q]] [box b (cQ s d) 136,rows encI 2 1 d.Av d.qv d.vars,rows Tb.cells 58 1 d.At d.qt d.tabs,De Be (d.tabs.map Tb.ar),ros Be d.dk.A d.dk.l,rows Dp 131 8 d.Ae d.qe d.effs,De encI (d.effs.map Ef.ar),rows encI 2 1 d.As d.qs d.stack,rows encI 2 1 e.A e.q e.args] (fun r Γ'=>r= .tuple #[]∧∃d':Dm,Γ'=[box b (cQ s d') 136,rows encI 2 1 d'.Av d'.qv d'.vars,rows Tb.cells 58 1 d'.At d'.qt d'.tabs,De Be (d'.tabs.map Tb.ar),ros Be d'.dk.A d'.dk.l,rows Dp 131 8 d'.Ae d'.qe d'.effs,De encI (d'.effs.map Ef.ar),rows encI 2 1 d'.As d'.qs d'.stack]∧d'.val=eB e.val d.val):=by
 have hss:0≤d.sends∧d.sends≤8:=hs
 refine Am func71 ntmps71 fun w0=>?_
 refine Js (To.g (oF rfl rfl rfl rfl rfl rfl (fun b3=>?_)))
 refine Jn (Jt (Js (Js (DX (Cq (To.g (Jm ?_)))))))
 refine Jnc ?_
 refine To.f oV ?_
 refine Jlo 2 c3 ?_
 refine ZI ?_
 refine Jn (Jt (Jcp rfl (fun c8=>?_) (fun c8=>?_)))
 refine Js (To.g (Jm ?_))
 refine Jcf [2,2,2,2,2,2,2,2] (aT b s d hel) ?_
 rintro _ _ ⟨rfl,d',rfl,hv⟩
 refine Jn (Jt (Jrt (To.tr (Jk (Kt (Co (.inl rfl) results71 ?_))))))
 exact⟨rfl,d',rfl,by rw[hv];exact(aEh (show 8≤d.val.sends from c8)).symm⟩
 refine Jsp (Jt (Js (To.g (Jm ?_))))
 refine Jnc ?_
 refine To.f oV ?_
 refine Jlo 2 c3 ?_
 refine Jr (Hl rfl rfl rfl om) ?_
 refine Jnc ?_
 refine To.f oV ?_
 refine To.u (Up.store (i:=2) rfl rfl rfl c3 rfl rfl (bt1 rfl)) ?_
 refine Jn (Jt (Jfw [] [0,1,2,3,4,105,106,207,8508,9,10,11,512] (ocn _) ?_))
 refine Ib ?_
 refine Ib ?_
 refine Fw.nc ?_
 refine Ep oU ?_
 refine Ep JP ?_
 refine Fw.lo 2 c79 ?_
 refine Fw.r rfl (Ij (i:=1) rfl rfl aCx rfl Py rfl) ?_
 refine Es [iv e.k,iv e.to,iv e.h,iv e.d,iv e.key,iv e.v, .bool e.f,vs e.A e.args e.q] fun b25=>?_
 refine Fw.ge rfl rfl rfl rfl (Bg kW (i:=8) (j:=0) (el:=e) rfl s79 rfl rfl rfl rfl rfl om om) ?_
 rintro _ _ ⟨A26,q26,rfl,rfl⟩
 refine⟨ocn _,?_⟩
 refine Fw.nc ?_
 refine Ep oU ?_
 refine Ep JP ?_
 refine Fw.up rfl rfl rfl (Up.store (i:=3) rfl rfl rfl c79 rfl rfl (bt1 rfl)) (ocn _) ?_
 refine Fw.fin ?_
 refine La ((d.effs++[e]).map Ef.ar) 9 rfl (Ih (mog (i:=1) rfl)) (Gu (Dl (Cu (Df (Ej (Ej (Ej (Ej (Ej (Ej (Co (.inr rfl) results71 ?_)))))))))))
 exact⟨rfl,(⟨d.Av,d.qv,d.vars,d.At,d.qt,d.tabs,⟨d.dk.A,d.dk.q,d.dk.l⟩,A26,q26,(d.effs++[e]),d.cost,d.As,d.qs,d.stack,d.next,d.sends+1,d.disks,d.fault⟩:Dm),rfl,by unfold eB;rw[aEa (show¬8≤d.val.sends from c8)];simp[Dm.val]⟩
theorem PG(b:Nat)(s:Sm)(d:Dm)(x:Ins)(a:Nat)(hat:a≤1000000)(hf:Fit s x d.val)(ho:Okr s d.val)(hfa:d.val.fault=false)(h31:((x.op:Nat):Int)=31→x.a=0):
    Dz 41 [pv b, .agg (Uj x).toArray,nv a] [box b (cQ s d) 136,rows encI 2 1 d.Av d.qv d.vars,rows Tb.cells 58 1 d.At d.qt d.tabs,De Be (d.tabs.map Tb.ar),ros Be d.dk.A d.dk.l,rows Dp 131 8 d.Ae d.qe d.effs,De encI (d.effs.map Ef.ar),rows encI 2 1 d.As d.qs d.stack,ros encI s.Aa s.args,ros Qv s.Ag s.flags,ros encI s.Af s.fail] (fun r Γ'=>∃(nx:Int) (d':Dm),r=iv nx∧Γ'=[box b (cQ s d') 136,rows encI 2 1 d'.Av d'.qv d'.vars,rows Tb.cells 58 1 d'.At d'.qt d'.tabs,De Be (d'.tabs.map Tb.ar),ros Be d'.dk.A d'.dk.l,rows Dp 131 8 d'.Ae d'.qe d'.effs,De encI (d'.effs.map Ef.ar),rows encI 2 1 d'.As d'.qs d'.stack]∧Jf s x d.val a nx d'.val):=by
 have hht:d.stack.length≤4001:=hf.height
 have hpp:Fx x≤((d.stack.length:Nat):Int):=hf.pops
 have hpo:=Ql x
 have hops:=hf.ops
 have hvar:((x.op:Nat):Int)=2∨((x.op:Nat):Int)=24∨((x.op:Nat):Int)=33→0≤x.a∧x.a<((d.vars.length:Nat):Int):=hf.var
 have htb:((x.op:Nat):Int)=6∨((x.op:Nat):Int)=7∨((x.op:Nat):Int)=8∨((x.op:Nat):Int)=25∨((x.op:Nat):Int)=26→0≤x.a∧x.a<((d.tabs.length:Nat):Int):=fun h=>by
  have:=hf.tab h
  have e:d.val.tabs.length=d.tabs.length:=by show(d.tabs.map Tb.l).length=_;rw[aEg]
  rw[e]at this;exact this
 have hsn:=hf.sends
 have hel:d.effs.length≤4000000:=by have h1:(d.effs.map Ef.val).length≤2000000:=ho.effs;rw[aEg]at h1;omega
 have hss:0≤d.sends∧d.sends≤8:=ho.sends
 have hdd:0≤d.disks∧d.disks≤2000000:=ho.disks
 have hcs:0≤d.cost∧d.cost≤200:=hf.cost
 have hgd:Good d.dk.l:=ho.disk
 have hgdl:=hgd.len
 refine Am func41 ntmps41 fun w0=>?_
 refine Js (To.g (oF rfl rfl rfl rfl rfl rfl (fun b4=>?_)))
 refine Ja (Jn (Jt (Js (To.g ?_))))
 refine Jm ?_
 refine Jnc ?_
 refine To.f oU ?_
 refine To.f WN ?_
 refine Jr (Ij (i:=1) (us:=[vs d.Av d.vars d.qv,vs d.At d.tabs d.qt,vs d.dk.A d.dk.l d.dk.q]) rfl rfl r60 rfl (Fh (n:=3) rfl) rfl) ?_
 refine To.alloc rfl rfl rfl rfl z60 (fun b7=>?_)
 refine To.u (Bl (i:=0) rfl rfl rfl r60 rfl rfl rfl (bta rfl)) ?_
 refine Jn (Jt (Js (To.b (Js (To.g (To.f Nb ?_))))))
 refine Jlo 1 c3 ?_
 refine Jle ?_
 refine Ja (Jn (Jt ?_))
 refine Jcp rfl ?_ ?_<;>intro k20
 refine To.g (Jm ?_)
 refine Jr (Ij (i:=1) rfl rfl aCw rfl Py rfl) ?_
 refine Jcf [2,2,2,2,2,2,2,2,2,2] (UD b s d x om hf ho) ?_
 rintro _ _ ⟨rfl,d',rfl,hv⟩
 refine Jn (Jbn (Jt (Js (To.g (Jm ?_)))))
 refine Jr (Mf rfl rfl rfl om) ?_
 refine Ja (Jn (Jt (Jrt (Gu (Jk (Kt ?_))))))
 refine Je1 results41 ?_
 exact⟨((a+1:Nat):Int),d',rfl,rfl,yT om hfa hv⟩
 refine Js (To.g (To.f Nb ?_))
 refine Jlo 1 c3 ?_
 refine Jle ?_
 refine Ja (Jn (Jt ?_))
 refine Jcp rfl ?_ ?_<;>intro k27
 refine Js (To.g (Jm ?_))
 refine Jcf [2,8] (Mc b s d 2 (by first|omega|(simp only[lap,aEf,lc1,ln0,aEe];omega))) ?_
 rintro _ _ ⟨Bp,qp,rfl,rfl⟩
 refine Ja (Jn (Jt ?_))
 refine Jfw [] [0,1,3,6,102,104,105,107,108,309,510] (ocn _) ?_
 refine Ib ?_
 refine Ep Nb ?_
 refine Ib ?_
 refine Ib ?_
 refine Fw.lo 4 c3 ?_
 refine Fw.r rfl (Ga (i:=2) (j:=0) rfl rfl rfl s28 rfl (Xh om)) ?_
 refine Fw.r rfl (Ck (i:=2) rfl rfl c2 rfl (Dc (rwg Cy (Xh om)) rfl)) ?_
 refine Fw.r rfl (Ga (i:=2) (j:=1) rfl rfl rfl s28 rfl (Xg om)) ?_
 refine Fw.r rfl (Ck (i:=2) rfl rfl c2 rfl (Dc (rwg Cy (Xg om)) rfl)) ?_
 refine Fw.qf (UB ((x.op:Nat):Int) (d.stack.dropLast.getLastD 0) (d.stack.getLastD 0) om) (ocn _) ?_
 refine Da [0,0] (Ms b s (⟨d.Av,d.qv,d.vars,d.At,d.qt,d.tabs,⟨d.dk.A,d.dk.q,d.dk.l⟩,d.Ae,d.qe,d.effs,d.cost,d.As,d.qs,(d.stack.take (d.stack.length-2)),d.next,d.sends,d.disks,d.fault⟩:Dm) (Ha ((x.op:Nat):Int) (d.stack.dropLast.getLastD 0) (d.stack.getLastD 0)) (by first|omega|(simp only[lap,aEf,lc1,ln0,aEe];omega))) ?_
 rintro _ _ ⟨rfl,As,qs,rfl⟩
 refine⟨ocn _,?_⟩
 refine Fw.fin ?_
 refine Jbn (Jt (Js (To.g (Jm ?_))))
 refine Jr (Mf rfl rfl rfl om) ?_
 refine Ja (Jn (Jt (Jrt (Pz (Iw (Fy (Er (Dl (Cu (Cj (Cj (Cj (Cj ?_)))))))))))))
 refine Cj (Cj (Ej (Je1 results41 ?_)))
 exact⟨((a+1:Nat):Int),(⟨d.Av,d.qv,d.vars,d.At,d.qt,d.tabs,⟨d.dk.A,d.dk.q,d.dk.l⟩,d.Ae,d.qe,d.effs,d.cost,As,qs,((d.stack.take (d.stack.length-2))++[Ha ((x.op:Nat):Int) (d.stack.dropLast.getLastD 0) (d.stack.getLastD 0)]),d.next,d.sends,d.disks,d.fault⟩:Dm),rfl,rfl,HY om hfa rfl⟩
 refine Js (To.g (To.f Nb ?_))
 refine Jlo 1 c3 ?_
 refine To.eq ?_
 refine Ja (Jn (Jt ?_))
 refine Jcp rfl ?_ ?_<;>intro k44
 obtain⟨ka,hka⟩:∃ka:Nat,x.a=((ka:Nat):Int):=⟨x.a.toNat,by have:=hvar om;omega⟩
 have hkl:ka<d.vars.length:=by have:=hvar om;omega
 obtain⟨y,hel2⟩:=exg d.vars ka om
 refine Lt (p:=d.Av=some ⟨blk d.Av,ofs d.Av,none⟩) (fun w hw=>Oe Cy (by decide) (l:=d.vars) om 3 rfl hw) (fun hAv=>?_)
 refine Jfw [box b4 [nv x.op,iv x.a,iv x.b,iv x.n] 129,box b7 [vs d.Av d.vars d.qv,vs d.At d.tabs d.qt,vs d.dk.A d.dk.l d.dk.q] 60] [0,1,2,3,4,505,106,107,8,509] (ocs (oca 1 rfl) (ocs (oca 0 rfl) (ocn _))) ?_
 refine Ep WJ ?_
 refine Sq 1 c28 ?_
 refine Ep Pb ?_
 refine Sq 0 c3 ?_
 refine Ib ?_
 refine Da [2,8] (Mc b s d 1 (by first|omega|(simp only[lap,aEf,lc1,ln0,aEe];omega))) ?_
 rintro _ _ ⟨Bp_2,qp_2,rfl,rfl⟩
 refine⟨ocs (oca 4 rfl) (ocs (oca 3 rfl) (ocn _)),?_⟩
 refine Fw.r rfl (Ga (i:=2) (j:=0) rfl rfl rfl s28 rfl (Jo om)) ?_
 refine Fw.r rfl (Ck (i:=2) rfl rfl c2 rfl (Dc (rwg Cy (Jo om)) rfl)) ?_
 refine Fw.f rfl (Cr (v':= .pointer (some ⟨blk d.Av,ofs d.Av+ka*1,none⟩)) rfl (Dg (j:=ka) hAv rfl rfl (by rw[←hka];rfl) s28 hkl)) ?_
 refine Fw.up rfl rfl rfl (Up.store (i:=5) rfl rfl rfl c2 rfl rfl (Ee Cy (y:=(d.stack.getLastD 0)) (by decide) om)) (ocs (oca 4 rfl) (ocs (oca 3 rfl) (ocn _))) ?_
 refine Fw.fin ?_
 refine Jbn (Jt (Js (To.g (Jm ?_))))
 refine Jr (Mf rfl rfl rfl om) ?_
 refine Ja (Jn (Jt (Jrt ?_)))
 refine Jas [box b [vs s.Aa s.args s.qa,iv s.now,vs s.Ag s.flags s.qg,iv s.dsk,vs s.Af s.fail s.qf,vs d.Av (d.vars.set ka (d.stack.getLastD 0)) d.qv,vs d.At d.tabs d.qt,vs d.dk.A d.dk.l d.dk.q,vs d.Ae d.effs d.qe,iv d.cost,vs d.As (d.stack.take (d.stack.length-1)) d.qs,iv d.disks,iv d.sends, .bool d.fault, .string bE,nz,nz, .string bE,nz,nz,nz,iv 0] 136,rows encI 2 1 d.As d.qs (d.stack.take (d.stack.length-1)),rows encI 2 1 Bp_2 qp_2 (d.stack.drop (d.stack.length-1)),box b7 [vs d.Av d.vars d.qv,vs d.At d.tabs d.qt,vs d.dk.A d.dk.l d.dk.q] 60,box b4 [nv x.op,iv x.a,iv x.b,iv x.n] 129,rows encI 2 1 d.Av d.qv (d.vars.set ka (d.stack.getLastD 0)),rows Tb.cells 58 1 d.At d.qt d.tabs,De Be (d.tabs.map Tb.ar),ros Be d.dk.A d.dk.l,rows Dp 131 8 d.Ae d.qe d.effs,De encI (d.effs.map Ef.ar),ros encI s.Aa s.args,ros Qv s.Ag s.flags,ros encI s.Af s.fail] (by(try unfold vs);rw[aEj]<;>rfl) (Pz (Iw (Fy (Er (Dl (Cu (Cj (Cj (Cj (Cj (Cj (Cj (Ej (Je1 results41 ?_))))))))))))))
 exact⟨((a+1:Nat):Int),(⟨d.Av,d.qv,(d.vars.set ka (d.stack.getLastD 0)),d.At,d.qt,d.tabs,⟨d.dk.A,d.dk.q,d.dk.l⟩,d.Ae,d.qe,d.effs,d.cost,d.As,d.qs,(d.stack.take (d.stack.length-1)),d.next,d.sends,d.disks,d.fault⟩:Dm),rfl,rfl,OT om hfa (by simp[Dm.val,hka,-List.getLastD_eq_getLast?])⟩
 refine Js (To.g (To.f Nb ?_))
 refine Jlo 1 c3 ?_
 refine To.eq ?_
 refine Ja (Jn (Jt ?_))
 refine Jcp rfl ?_ ?_<;>intro k57
 refine Js (To.g (Jm ?_))
 refine Jcf [2,8] (Mc b s d 2 (by first|omega|(simp only[lap,aEf,lc1,ln0,aEe];omega))) ?_
 rintro _ _ ⟨Bp_3,qp_3,rfl,rfl⟩
 refine Ja (Jn (Jt ?_))
 obtain⟨ka,hka⟩:∃ka:Nat,x.a=((ka:Nat):Int):=⟨x.a.toNat,by have:=htb om;omega⟩
 have hkl:ka<d.tabs.length:=by have:=htb om;omega
 obtain⟨t,ht⟩:=exg d.tabs ka om
 have htm:=mog ht
 have hg:Good t.l:=ho.tabs t.l (aEv.2 ⟨t,htm,rfl⟩)
 have hgl:=hg.len
 have hgt:(d.tabs.map Tb.l).getD ka []=t.l:=by rw[aEx,aEp,ht];rfl
 refine Lt (p:=d.At=some ⟨blk d.At,ofs d.At,none⟩) (fun w hw=>Oe Nf (by decide) (l:=d.tabs) om 6 rfl hw) (fun hAt=>?_)
 refine rV 7 rfl (Ou ht Tb.ar) (Jfw [box b4 [nv x.op,iv x.a,iv x.b,iv x.n] 129,box b7 [vs d.Av d.vars d.qv,vs d.At d.tabs d.qt,vs d.dk.A d.dk.l d.dk.q] 60] [0,1,2,3,4,6,10,13,105,107,108,109,111,112,114,115,516,17,518] (ocs (oca 5 rfl) (ocs (oca 4 rfl) (ocn _))) ?_)
 refine Ep bK ?_
 refine Sq 1 c57 ?_
 refine Ep Pb ?_
 refine Sq 0 c3 ?_
 refine Ep bK ?_
 refine Ep Pb ?_
 refine Ib ?_
 refine Ib ?_
 refine Fw.lo 4 c57 ?_
 refine Fw.lo 5 c3 ?_
 refine Fw.r rfl (Cr (v':= .pointer (some ⟨blk d.At,ofs d.At+ka*1,none⟩)) rfl (Dg (j:=ka) hAt rfl rfl (by rw[←hka];rfl) s57 hkl)) ?_
 refine Fw.r rfl (Ck (i:=7) rfl rfl c58 rfl (Dc (rwg Nf ht) rfl)) ?_
 refine Fw.r rfl (Ga (i:=3) (j:=0) rfl rfl rfl s28 rfl (Xh om)) ?_
 refine Fw.r rfl (Ck (i:=3) rfl rfl c2 rfl (Dc (rwg Cy (Xh om)) rfl)) ?_
 refine Fw.r rfl (Ga (i:=3) (j:=1) rfl rfl rfl s28 rfl (Xg om)) ?_
 refine Fw.r rfl (Ck (i:=3) rfl rfl c2 rfl (Dc (rwg Cy (Xg om)) rfl)) ?_
 refine Da [0] (vI t.A t.q t.l (d.stack.dropLast.getLastD 0) (d.stack.getLastD 0) hg) ?_
 rintro _ _ ⟨Bd,qd,rfl,rfl⟩
 refine⟨ocs (oca 5 rfl) (ocs (oca 4 rfl) (ocn _)),?_⟩
 refine Fw.f rfl (Cr (v':= .pointer (some ⟨blk d.At,ofs d.At+ka*1,none⟩)) rfl (Dg (j:=ka) hAt rfl rfl (by rw[←hka];rfl) s57 hkl)) ?_
 refine Fw.up rfl rfl rfl (Up.store (i:=7) rfl rfl rfl c58 rfl rfl (Ee Nf (y:=(⟨Bd,qd,(Oq t.l (d.stack.dropLast.getLastD 0) (d.stack.getLastD 0))⟩:Tb)) (by decide) om)) (ocs (oca 5 rfl) (ocs (oca 4 rfl) (ocn _))) ?_
 refine Fw.fin ?_
 refine Jbn (Jt (Js (To.g (Jm ?_))))
 refine Jr (Mf rfl rfl rfl om) ?_
 refine Ja (Jn (Jt (Jrt ?_)))
 refine Jas [ros Be Bd (Oq t.l (d.stack.dropLast.getLastD 0) (d.stack.getLastD 0)),box b [vs s.Aa s.args s.qa,iv s.now,vs s.Ag s.flags s.qg,iv s.dsk,vs s.Af s.fail s.qf,vs d.Av d.vars d.qv,vs d.At (d.tabs.set ka (⟨Bd,qd,Oq t.l (d.stack.dropLast.getLastD 0) (d.stack.getLastD 0)⟩:Tb)) d.qt,vs d.dk.A d.dk.l d.dk.q,vs d.Ae d.effs d.qe,iv d.cost,vs d.As (d.stack.take (d.stack.length-2)) d.qs,iv d.disks,iv d.sends, .bool d.fault, .string bE,nz,nz, .string bE,nz,nz,nz,iv 0] 136,rows encI 2 1 d.As d.qs (d.stack.take (d.stack.length-2)),rows encI 2 1 Bp_3 qp_3 (d.stack.drop (d.stack.length-2)),box b7 [vs d.Av d.vars d.qv,vs d.At d.tabs d.qt,vs d.dk.A d.dk.l d.dk.q] 60,box b4 [nv x.op,iv x.a,iv x.b,iv x.n] 129,rows encI 2 1 d.Av d.qv d.vars,rows Tb.cells 58 1 d.At d.qt (d.tabs.set ka (⟨Bd,qd,(Oq t.l (d.stack.dropLast.getLastD 0) (d.stack.getLastD 0))⟩:Tb)),De Be (d.tabs.map Tb.ar),ros Be d.dk.A d.dk.l,rows Dp 131 8 d.Ae d.qe d.effs,De encI (d.effs.map Ef.ar),ros encI s.Aa s.args,ros Qv s.Ag s.flags,ros encI s.Af s.fail] (by(try unfold vs);rw[aEj]<;>rfl) (La ((d.tabs.set ka (⟨Bd,qd,Oq t.l (d.stack.dropLast.getLastD 0) (d.stack.getLastD 0)⟩:Tb)).map Tb.ar) 8 rfl (Ww (mog (i:=0) rfl)) (iA (bI (Pz (Jk (Lj (Iu (Er (Df (Cj (Cj (Cj (Ic (Cj (Cj (Ej (Je1 results41 ?_)))))))))))))))))
 exact⟨((a+1:Nat):Int),(⟨d.Av,d.qv,d.vars,d.At,d.qt,(d.tabs.set ka (⟨Bd,qd,Oq t.l (d.stack.dropLast.getLastD 0) (d.stack.getLastD 0)⟩:Tb)),⟨d.dk.A,d.dk.q,d.dk.l⟩,d.Ae,d.qe,d.effs,d.cost,d.As,d.qs,(d.stack.take (d.stack.length-2)),d.next,d.sends,d.disks,d.fault⟩:Dm),rfl,rfl,OU om hfa (by simp[Dm.val,hka,ht,hgt,map_set,-List.map_set,-List.getLastD_eq_getLast?])⟩
 refine Js (To.g (To.f Nb ?_))
 refine Jlo 1 c3 ?_
 refine To.eq ?_
 refine Ja (Jn (Jt ?_))
 refine Jcp rfl ?_ ?_<;>intro k81
 obtain⟨ka,hka⟩:∃ka:Nat,x.a=((ka:Nat):Int):=⟨x.a.toNat,by have:=htb om;omega⟩
 have hkl:ka<d.tabs.length:=by have:=htb om;omega
 obtain⟨t,ht⟩:=exg d.tabs ka om
 have htm:=mog ht
 have hg:Good t.l:=ho.tabs t.l (aEv.2 ⟨t,htm,rfl⟩)
 have hgl:=hg.len
 have hgt:(d.tabs.map Tb.l).getD ka []=t.l:=by rw[aEx,aEp,ht];rfl
 refine Lt (p:=d.At=some ⟨blk d.At,ofs d.At,none⟩) (fun w hw=>Oe Nf (by decide) (l:=d.tabs) om 4 rfl hw) (fun hAt=>?_)
 refine rV 5 rfl (Ou ht Tb.ar) (zO [box b4 [nv x.op,iv x.a,iv x.b,iv x.n] 129,box b7 [vs d.Av d.vars d.qv,vs d.At d.tabs d.qt,vs d.dk.A d.dk.l d.dk.q] 60] 9 11 [⟨0,[],0⟩,⟨1,[],0⟩,⟨2,[],0⟩,⟨3,[],0⟩,⟨4,[],0⟩,⟨5,[],0⟩,⟨6,[],0⟩,⟨7,[],0⟩,⟨8,[],0⟩,⟨10,[],0⟩,⟨11,[],5⟩,⟨9,[],1⟩,⟨12,[],1⟩,⟨13,[],1⟩,⟨14,[],4⟩,⟨15,[14],0⟩,⟨16,[14],5⟩] [⟨0,[],0⟩,⟨1,[],0⟩,⟨2,[],0⟩,⟨3,[],0⟩,⟨4,[],0⟩,⟨5,[],0⟩,⟨6,[],0⟩,⟨7,[],0⟩,⟨8,[],0⟩,⟨10,[],0⟩,⟨9,[],1⟩,⟨11,[],5⟩,⟨12,[],1⟩,⟨13,[],1⟩,⟨14,[],4⟩,⟨15,[14],0⟩,⟨16,[14],5⟩] mixed.h rfl (by kernel_rfl) (by kernel_rfl) (by kernel_rfl) (ocs (oca 2 rfl) (ocs (oca 1 rfl) (ocn _))) ?_ ?_)
 refine Ep bK ?_
 refine Sq 1 c57 ?_
 refine Ep Pb ?_
 refine Sq 0 c3 ?_
 refine Ep bK ?_
 refine Sq 1 c57 ?_
 refine Ep Pb ?_
 refine Sq 0 c3 ?_
 refine Fw.f rfl (Cr (v':= .pointer (some ⟨blk d.At,ofs d.At+ka*1,none⟩)) rfl (Dg (j:=ka) hAt rfl rfl (by rw[←hka];rfl) s57 hkl)) ?_
 refine Ib ?_
 refine Da [3,9] (Mc b s d 1 (by first|omega|(simp only[lap,aEf,lc1,ln0,aEe];omega))) ?_
 rintro _ _ ⟨Bp_4,qp_4,rfl,rfl⟩
 refine⟨ocs (oca 5 rfl) (ocs (oca 4 rfl) (ocn _)),?_⟩
 refine Fw.r rfl (Ck (i:=7) rfl rfl c58 rfl (Dc (rwg Nf ht) rfl)) ?_
 refine Fw.r rfl (Ga (i:=2) (j:=0) rfl rfl rfl s28 rfl (Jo om)) ?_
 refine Fw.r rfl (Ck (i:=2) rfl rfl c2 rfl (Dc (rwg Cy (Jo om)) rfl)) ?_
 refine Gj rfl rfl rfl rfl rfl .fc (pG t.A t.q t.l (d.stack.getLastD 0) om) rfl (ocs (oca 3 rfl) (ocn _)) ?_
 rintro _ _ ⟨Bd,qd,rfl,rfl⟩
 refine⟨rfl,?_⟩
 refine Fw.f rfl (Cr (v':= .pointer (some ⟨blk d.At,ofs d.At+ka*1,none⟩)) rfl (Dg (j:=ka) hAt rfl rfl (by rw[←hka];rfl) s57 hkl)) ?_
 refine Fw.up rfl rfl rfl (Up.store (i:=8) rfl rfl rfl c58 rfl rfl (Ee Nf (y:=(⟨Bd,qd,(Im t.l (d.stack.getLastD 0))⟩:Tb)) (by decide) om)) (ocs (oca 6 rfl) (ocs (oca 5 rfl) (ocn _))) ?_
 refine Fw.fin ?_
 refine Jbn (Jt (Js (To.g (Jm ?_))))
 refine Jr (Mf rfl rfl rfl om) ?_
 refine Ja (Jn (Jt (Jrt ?_)))
 refine Cq (Jas [ros Be Bd (Im t.l (d.stack.getLastD 0)),box b [vs s.Aa s.args s.qa,iv s.now,vs s.Ag s.flags s.qg,iv s.dsk,vs s.Af s.fail s.qf,vs d.Av d.vars d.qv,vs d.At (d.tabs.set ka (⟨Bd,qd,Im t.l (d.stack.getLastD 0)⟩:Tb)) d.qt,vs d.dk.A d.dk.l d.dk.q,vs d.Ae d.effs d.qe,iv d.cost,vs d.As (d.stack.take (d.stack.length-1)) d.qs,iv d.disks,iv d.sends, .bool d.fault, .string bE,nz,nz, .string bE,nz,nz,nz,iv 0] 136,rows encI 2 1 d.As d.qs (d.stack.take (d.stack.length-1)),rows encI 2 1 Bp_4 qp_4 (d.stack.drop (d.stack.length-1)),ros Be t.A t.l,box b7 [vs d.Av d.vars d.qv,vs d.At d.tabs d.qt,vs d.dk.A d.dk.l d.dk.q] 60,box b4 [nv x.op,iv x.a,iv x.b,iv x.n] 129,rows encI 2 1 d.Av d.qv d.vars,rows Tb.cells 58 1 d.At d.qt (d.tabs.set ka (⟨Bd,qd,(Im t.l (d.stack.getLastD 0))⟩:Tb)),De Be (d.tabs.map Tb.ar),ros Be d.dk.A d.dk.l,rows Dp 131 8 d.Ae d.qe d.effs,De encI (d.effs.map Ef.ar),ros encI s.Aa s.args,ros Qv s.Ag s.flags,ros encI s.Af s.fail] (by(try unfold vs);rw[aEj]<;>rfl) (La ((d.tabs.set ka (⟨Bd,qd,Im t.l (d.stack.getLastD 0)⟩:Tb)).map Tb.ar) 9 rfl (Ww (mog (i:=0) rfl)) (wI (iA (bI (Gu (Xp (Lj (Iu (Er (Df (Cj (Cj (Cj (Ic (Cj (Cj (Ej (Je1 results41 ?_)))))))))))))))))))
 exact⟨((a+1:Nat):Int),(⟨d.Av,d.qv,d.vars,d.At,d.qt,(d.tabs.set ka (⟨Bd,qd,Im t.l (d.stack.getLastD 0)⟩:Tb)),⟨d.dk.A,d.dk.q,d.dk.l⟩,d.Ae,d.qe,d.effs,d.cost,d.As,d.qs,(d.stack.take (d.stack.length-1)),d.next,d.sends,d.disks,d.fault⟩:Dm),rfl,rfl,vL om hfa (by simp[Dm.val,hka,ht,hgt,map_set,-List.map_set,-List.getLastD_eq_getLast?])⟩
 refine Ep bK ?_
 refine Sq 1 c57 ?_
 refine Ep Pb ?_
 refine Sq 0 c3 ?_
 refine Ep bK ?_
 refine Sq 1 c57 ?_
 refine Ep Pb ?_
 refine Sq 0 c3 ?_
 refine Fw.f rfl (Cr (v':= .pointer (some ⟨blk d.At,ofs d.At+ka*1,none⟩)) rfl (Dg (j:=ka) hAt rfl rfl (by rw[←hka];rfl) s57 hkl)) ?_
 refine Ib ?_
 refine Fw.r rfl (Ck (i:=5) rfl rfl c58 rfl (Dc (rwg Nf ht) rfl)) ?_
 refine Da [3,9] (Mc b s d 1 (by first|omega|(simp only[lap,aEf,lc1,ln0,aEe];omega))) ?_
 rintro _ _ ⟨Bp_5,qp_5,rfl,rfl⟩
 refine⟨ocs (oca 5 rfl) (ocs (oca 4 rfl) (ocn _)),?_⟩
 refine Fw.r rfl (Ga (i:=2) (j:=0) rfl rfl rfl s28 rfl (Jo om)) ?_
 refine Fw.r rfl (Ck (i:=2) rfl rfl c2 rfl (Dc (rwg Cy (Jo om)) rfl)) ?_
 refine Gj rfl rfl rfl rfl rfl .fc (pG t.A t.q t.l (d.stack.getLastD 0) om) rfl (ocs (oca 3 rfl) (ocn _)) ?_
 rintro _ _ ⟨Bd,qd,rfl,rfl⟩
 refine⟨rfl,?_⟩
 refine Fw.f rfl (Cr (v':= .pointer (some ⟨blk d.At,ofs d.At+ka*1,none⟩)) rfl (Dg (j:=ka) hAt rfl rfl (by rw[←hka];rfl) s57 hkl)) ?_
 refine Fw.up rfl rfl rfl (Up.store (i:=8) rfl rfl rfl c58 rfl rfl (Ee Nf (y:=(⟨Bd,qd,(Im t.l (d.stack.getLastD 0))⟩:Tb)) (by decide) om)) (ocs (oca 6 rfl) (ocs (oca 5 rfl) (ocn _))) ?_
 refine Fw.fin ?_
 refine Jbn (Jt (Js (To.g (Jm ?_))))
 refine Jr (Mf rfl rfl rfl om) ?_
 refine Ja (Jn (Jt (Jrt ?_)))
 refine Cq (Jas [ros Be Bd (Im t.l (d.stack.getLastD 0)),box b [vs s.Aa s.args s.qa,iv s.now,vs s.Ag s.flags s.qg,iv s.dsk,vs s.Af s.fail s.qf,vs d.Av d.vars d.qv,vs d.At (d.tabs.set ka (⟨Bd,qd,Im t.l (d.stack.getLastD 0)⟩:Tb)) d.qt,vs d.dk.A d.dk.l d.dk.q,vs d.Ae d.effs d.qe,iv d.cost,vs d.As (d.stack.take (d.stack.length-1)) d.qs,iv d.disks,iv d.sends, .bool d.fault, .string bE,nz,nz, .string bE,nz,nz,nz,iv 0] 136,rows encI 2 1 d.As d.qs (d.stack.take (d.stack.length-1)),rows encI 2 1 Bp_5 qp_5 (d.stack.drop (d.stack.length-1)),ros Be t.A t.l,box b7 [vs d.Av d.vars d.qv,vs d.At d.tabs d.qt,vs d.dk.A d.dk.l d.dk.q] 60,box b4 [nv x.op,iv x.a,iv x.b,iv x.n] 129,rows encI 2 1 d.Av d.qv d.vars,rows Tb.cells 58 1 d.At d.qt (d.tabs.set ka (⟨Bd,qd,(Im t.l (d.stack.getLastD 0))⟩:Tb)),De Be (d.tabs.map Tb.ar),ros Be d.dk.A d.dk.l,rows Dp 131 8 d.Ae d.qe d.effs,De encI (d.effs.map Ef.ar),ros encI s.Aa s.args,ros Qv s.Ag s.flags,ros encI s.Af s.fail] (by(try unfold vs);rw[aEj]<;>rfl) (La ((d.tabs.set ka (⟨Bd,qd,Im t.l (d.stack.getLastD 0)⟩:Tb)).map Tb.ar) 9 rfl (Ww (mog (i:=0) rfl)) (wI (iA (bI (Gu (Xp (Lj (Iu (Er (Df (Cj (Cj (Cj (Ic (Cj (Cj (Ej (Je1 results41 ?_)))))))))))))))))))
 exact⟨((a+1:Nat):Int),(⟨d.Av,d.qv,d.vars,d.At,d.qt,(d.tabs.set ka (⟨Bd,qd,Im t.l (d.stack.getLastD 0)⟩:Tb)),⟨d.dk.A,d.dk.q,d.dk.l⟩,d.Ae,d.qe,d.effs,d.cost,d.As,d.qs,(d.stack.take (d.stack.length-1)),d.next,d.sends,d.disks,d.fault⟩:Dm),rfl,rfl,vL om hfa (by simp[Dm.val,hka,ht,hgt,map_set,-List.map_set,-List.getLastD_eq_getLast?])⟩
 refine Js (To.g (To.f Nb ?_))
 refine Jlo 1 c3 ?_
 refine To.eq ?_
 refine Ja (Jn (Jt ?_))
 refine Jcp rfl ?_ ?_<;>intro k101
 refine Js (To.g (To.f Pb ?_))
 refine Jlo 1 c3 ?_
 refine Ja (Jn (Jt (Jrt (Jbr (To.tr (Iw (Fy (Gu (Df (Du ?_))))))))))
 refine Je1 results41 ?_
 exact⟨x.a,d,rfl,rfl,OV om hfa⟩
 refine Js (To.g (To.f Nb ?_))
 refine Jlo 1 c3 ?_
 refine To.eq ?_
 refine Ja (Jn (Jt ?_))
 refine Jcp rfl ?_ ?_<;>intro k107
 refine Js (To.g (Jm ?_))
 refine Jcf [2,8] (Mc b s d 1 (by first|omega|(simp only[lap,aEf,lc1,ln0,aEe];omega))) ?_
 rintro _ _ ⟨Bp_6,qp_6,rfl,rfl⟩
 refine Jr (Ga (i:=2) (j:=0) rfl rfl rfl s28 rfl (Jo om)) ?_
 refine Jr (Ck (i:=2) rfl rfl c2 rfl (Dc (rwg Cy (Jo om)) rfl)) ?_
 refine To.eq ?_
 refine Jn (Jt (Jcp rfl (fun k115=>?_) (fun k115=>?_)))
 refine Js (To.g (To.f Pb ?_))
 refine Jlo 4 c3 ?_
 refine Ja (Jn (Jt (Jrt (Jbr (To.tr (Pz (Iw (Fy (Er (Dl (Cu (Cj (Cj ?_)))))))))))))
 refine Cj (Cj (Cj (Cj (Ej (Je1 results41 ?_)))))
 exact⟨x.a,(⟨d.Av,d.qv,d.vars,d.At,d.qt,d.tabs,⟨d.dk.A,d.dk.q,d.dk.l⟩,d.Ae,d.qe,d.effs,d.cost,d.As,d.qs,(d.stack.take (d.stack.length-1)),d.next,d.sends,d.disks,d.fault⟩:Dm),rfl,rfl,vM om hfa rfl ((aEh k115).symm)⟩
 refine Jsp (Jbn (Jt (Js (To.g (Jm ?_)))))
 refine Jr (Mf rfl rfl rfl om) ?_
 refine Ja (Jn (Jt (Jrt (Pz (Iw (Fy (Er (Dl (Cu (Cj (Cj (Cj (Cj ?_)))))))))))))
 refine Cj (Cj (Ej (Je1 results41 ?_)))
 exact⟨((a+1:Nat):Int),(⟨d.Av,d.qv,d.vars,d.At,d.qt,d.tabs,⟨d.dk.A,d.dk.q,d.dk.l⟩,d.Ae,d.qe,d.effs,d.cost,d.As,d.qs,(d.stack.take (d.stack.length-1)),d.next,d.sends,d.disks,d.fault⟩:Dm),rfl,rfl,vM om hfa rfl ((aEa k115).symm)⟩
 refine Js (To.g (To.f Nb ?_))
 refine Jlo 1 c3 ?_
 refine To.eq ?_
 refine Ja (Jn (Jt ?_))
 refine Jcp rfl ?_ ?_<;>intro k118
 refine To.g (Jm ?_)
 refine Jcf [2,2,2,2,2,2,2,2] (YT b s d hel hcs) ?_
 rintro _ _ ⟨rfl,d',rfl,hv⟩
 refine Jn (Jbn (Jt (Js (To.g (Jm ?_)))))
 refine Jr (Mf rfl rfl rfl om) ?_
 refine Ja (Jn (Jt (Jrt (Iw (Fy (Gu (Jk (Kt ?_))))))))
 refine Je1 results41 ?_
 exact⟨((a+1:Nat):Int),d',rfl,rfl,OW om hfa hcs hv⟩
 refine Js (To.g (To.f Nb ?_))
 refine Jlo 1 c3 ?_
 refine To.eq ?_
 refine Ja (Jn (Jt ?_))
 refine Jcp rfl ?_ ?_<;>intro k124
 have hsn2:=hsn om
 obtain⟨kn,hkn⟩:∃kn:Nat,x.n=((kn:Nat):Int):=⟨x.n.toNat,by omega⟩
 refine Jfw [box b4 [nv x.op,iv x.a,iv x.b,iv x.n] 129] [0,1,2,3,4,5,6,7,508,9,510] (ocs (oca 1 rfl) (ocn _)) ?_
 refine Ib ?_
 refine Ep Pb ?_
 refine Sq 0 c3 ?_
 refine Ep eY ?_
 refine Sq 0 c3 ?_
 refine Ib ?_
 refine Ep zU ?_
 refine Fw.f rfl (Cr (v':=nv kn) (congrArg iv hkn) (Ck (i:=0) rfl rfl c2 rfl (bg1 rfl))) ?_
 refine Da [2,8] (Mc b s d kn (by first|omega|(simp only[lap,aEf,lc1,ln0,aEe];omega))) ?_
 rintro _ _ ⟨Bp_7,qp_7,rfl,rfl⟩
 refine⟨ocs (oca 4 rfl) (ocn _),?_⟩
 refine Fw.f rfl (.bd [iv 1,iv x.a,iv x.b,iv 0,iv 0,iv 0, .bool false,vs Bp_7 (d.stack.drop (d.stack.length-kn)) qp_7]) ?_
 refine Da [0,4,4,4,4,4,4,0,0] (PD b s (⟨d.Av,d.qv,d.vars,d.At,d.qt,d.tabs,⟨d.dk.A,d.dk.q,d.dk.l⟩,d.Ae,d.qe,d.effs,d.cost,d.As,d.qs,(d.stack.take (d.stack.length-kn)),d.next,d.sends,d.disks,d.fault⟩:Dm) (⟨1,x.a,x.b,0,0,0,false,Bp_7,qp_7,(d.stack.drop (d.stack.length-kn))⟩:Ef) hel hss) ?_
 rintro _ _ ⟨rfl,d',rfl,hv⟩
 refine⟨ocs (oca 9 rfl) (ocn _),?_⟩
 refine Fw.fin ?_
 refine Jbn (Jt (Js (To.g (Jm ?_))))
 refine Jr (Mf rfl rfl rfl om) ?_
 refine Ja (Jn (Jt (Jrt (Iw (Fy (Gu (Jk (Kt ?_))))))))
 refine Je1 results41 ?_
 exact⟨((a+1:Nat):Int),d',rfl,rfl,OX om hfa hss hkn hv⟩
 refine Js (To.g (To.f Nb ?_))
 refine Jlo 1 c3 ?_
 refine To.eq ?_
 refine Ja (Jn (Jt ?_))
 refine Jcp rfl ?_ ?_<;>intro k139
 refine Js ?_
 have hsn2:=hsn om
 obtain⟨kn,hkn⟩:∃kn:Nat,x.n=((kn:Nat):Int):=⟨x.n.toNat,by omega⟩
 refine To.g (Jm ?_)
 refine To.f zU ?_
 refine Jr (Cr (v':=nv kn) (congrArg iv hkn) (Ck (i:=1) rfl rfl c2 rfl (bg1 rfl))) ?_
 refine Jr (Mf rfl rfl rfl om) ?_
 refine Jcf [2,8] (Mc b s d (kn+1) (by first|omega|(simp only[lap,aEf,lc1,ln0,aEe];omega))) ?_
 rintro _ _ ⟨Bp_8,qp_8,rfl,rfl⟩
 refine Ja (Jn (Jt (Jj ?_)))
 have hNl:(d.stack.drop (d.stack.length-(kn+1))).length=kn+1:=by rw[aFk];omega
 have hN0:(d.stack.drop (d.stack.length-(kn+1)))[0]?=some ((d.stack.drop (d.stack.length-(kn+1))).headD 0):=by rw[List.headD_eq_head?_getD,List.head?_eq_getElem?,gge om];rfl
 refine Lt (p:=(d.stack.drop (d.stack.length-(kn+1))).length≤qp_8) (fun w hw=>Mw 0 rfl hw) (fun hqp=>?_)
 refine Cq (bJ Cy qp_8 1 0 rfl hqp om (Jfw [] [0,1,3,6,7,102,104,105,8,509] (ocn _) ?_))
 refine Ib ?_
 refine Ep eY ?_
 refine Ib ?_
 refine Ib ?_
 refine Fw.f rfl (Cr (v':= .slice (Hr Bp_8 qp_8 1 1) ((d.stack.drop (d.stack.length-(kn+1))).drop 1).length (qp_8-1)) (congrArg (fun z=>Value.slice (Hr Bp_8 qp_8 1 1) z (qp_8-1)) (aFk).symm) (Mh (lo:=1) rfl s28 rfl rfl om)) ?_
 refine Fw.lo 5 c3 ?_
 refine Fw.r rfl (Yb Cy (i:=1) (j:=0) rfl rfl rfl s28 rfl hN0) ?_
 refine Fw.r rfl (Ck (i:=1) rfl rfl c2 rfl (Dc (rsg Cy hN0) rfl)) ?_
 refine Fw.f rfl (.bd [iv 2,iv 0,iv x.b,iv ((d.stack.drop (d.stack.length-(kn+1))).headD 0),iv 0,iv 0, .bool false,vs (Hr Bp_8 qp_8 1 1) ((d.stack.drop (d.stack.length-(kn+1))).drop 1) (qp_8-1)]) ?_
 refine Da [2,5,5,5,5,5,5,2,0] (UC b s (⟨d.Av,d.qv,d.vars,d.At,d.qt,d.tabs,⟨d.dk.A,d.dk.q,d.dk.l⟩,d.Ae,d.qe,d.effs,d.cost,d.As,d.qs,(d.stack.take (d.stack.length-(kn+1))),d.next,d.sends,d.disks,d.fault⟩:Dm) (⟨2,0,x.b,((d.stack.drop (d.stack.length-(kn+1))).headD 0),0,0,false,(Hr Bp_8 qp_8 1 1),(qp_8-1),((d.stack.drop (d.stack.length-(kn+1))).drop 1)⟩:Ef) hel hss) ?_
 rintro _ _ ⟨rfl,d',rfl,hv⟩
 refine⟨ocn _,?_⟩
 refine Fw.fin ?_
 refine Jbn (Jt (Js (To.g (Jm ?_))))
 refine Jr (Mf rfl rfl rfl om) ?_
 refine Ja (Jn (Jt (Jrt (Pz (Iw (Fy (Gu (Jk (Kt ?_)))))))))
 refine Je1 results41 ?_
 exact⟨((a+1:Nat):Int),d',rfl,rfl,OY om hfa hss hkn (h31 om) (show kn<d.stack.length by omega) hv⟩
 refine Js (To.g (To.f Nb ?_))
 refine Jlo 1 c3 ?_
 refine To.eq ?_
 refine Ja (Jn (Jt ?_))
 refine Jcp rfl ?_ ?_<;>intro k158
 refine Js (To.g (Jm ?_))
 refine Jcf [2,8] (Mc b s d 2 (by first|omega|(simp only[lap,aEf,lc1,ln0,aEe];omega))) ?_
 rintro _ _ ⟨Bp_9,qp_9,rfl,rfl⟩
 refine Ja (Jn (Jt (Js ?_)))
 refine Jfw [] [0,1,4,102,103,105,106,507] (ocn _) ?_
 refine Ib ?_
 refine Ib ?_
 refine Ib ?_
 refine Fw.r rfl (Ga (i:=2) (j:=0) rfl rfl rfl s28 rfl (Xh om)) ?_
 refine Fw.r rfl (Ck (i:=2) rfl rfl c2 rfl (Dc (rwg Cy (Xh om)) rfl)) ?_
 refine Fw.r rfl (Ga (i:=2) (j:=1) rfl rfl rfl s28 rfl (Xg om)) ?_
 refine Fw.r rfl (Ck (i:=2) rfl rfl c2 rfl (Dc (rwg Cy (Xg om)) rfl)) ?_
 refine Da [0,4,4,4,4,4,4,0,5] (OJ b s (⟨d.Av,d.qv,d.vars,d.At,d.qt,d.tabs,⟨d.dk.A,d.dk.q,d.dk.l⟩,d.Ae,d.qe,d.effs,d.cost,d.As,d.qs,(d.stack.take (d.stack.length-2)),d.next,d.sends,d.disks,d.fault⟩:Dm) (d.stack.dropLast.getLastD 0) (d.stack.getLastD 0) hel hdd ho.dsk ho.fail hgd) ?_
 rintro _ _ ⟨rfl,d',rfl,hv⟩
 refine⟨ocn _,?_⟩
 refine Fw.fin ?_
 refine Jt (Ed rfl (fun k171=>?_) (fun k171=>?_))
 refine Js (To.g (To.f eY ?_))
 refine Jlo 10 c3 ?_
 refine Ja (Jn (Jt (Jrt (Jbr (To.tr (Iw (Fy (Gu (Jk (Kt ?_))))))))))
 refine Je1 results41 ?_
 exact⟨x.b,d',rfl,rfl,vN om hfa hv ((aEh k171).symm)⟩
 refine Jsp (Jbn (Jt (Js (To.g (Jm ?_)))))
 refine Jr (Mf rfl rfl rfl om) ?_
 refine Ja (Jn (Jt (Jrt (Iw (Fy (Gu (Jk (Kt ?_))))))))
 refine Je1 results41 ?_
 exact⟨((a+1:Nat):Int),d',rfl,rfl,vN om hfa hv ((aEa (by rw[show decide (s.dsk+d.val.disks∈s.fail)=false from k171];decide)).symm)⟩
 refine Js (To.g (To.f Nb ?_))
 refine Jlo 1 c3 ?_
 refine To.eq ?_
 refine Ja (Jn (Jt ?_))
 refine Jcp rfl ?_ ?_<;>intro k174
 refine Js ?_
 obtain⟨ka,hka⟩:∃ka:Nat,x.a=((ka:Nat):Int):=⟨x.a.toNat,by have:=hvar om;omega⟩
 have hkl:ka<d.vars.length:=by have:=hvar om;omega
 obtain⟨y,hel2⟩:=exg d.vars ka om
 refine Jfw [box b4 [nv x.op,iv x.a,iv x.b,iv x.n] 129] [0,1,2,3,504,105,106,507] (ocs (oca 1 rfl) (ocn _)) ?_
 refine Ib ?_
 refine Ep Pb ?_
 refine Fw.f rfl (Cr (v':=nv ka) (congrArg iv hka) (Ck (i:=0) rfl rfl c3 rfl (bg1 rfl))) ?_
 refine Ib ?_
 refine Da [2,8] (Mc b s d 1 (by first|omega|(simp only[lap,aEf,lc1,ln0,aEe];omega))) ?_
 rintro _ _ ⟨Bp_10,qp_10,rfl,rfl⟩
 refine⟨ocs (oca 4 rfl) (ocn _),?_⟩
 refine Fw.r rfl (Ga (i:=2) (j:=0) rfl rfl rfl s28 rfl (Jo om)) ?_
 refine Fw.r rfl (Ck (i:=2) rfl rfl c2 rfl (Dc (rwg Cy (Jo om)) rfl)) ?_
 refine Da [0,4,4,4,4,4,4,0,5] (OL b s (⟨d.Av,d.qv,d.vars,d.At,d.qt,d.tabs,⟨d.dk.A,d.dk.q,d.dk.l⟩,d.Ae,d.qe,d.effs,d.cost,d.As,d.qs,(d.stack.take (d.stack.length-1)),d.next,d.sends,d.disks,d.fault⟩:Dm) ka y (d.stack.getLastD 0) hel2 hel hdd ho.dsk ho.fail hgd) ?_
 rintro _ _ ⟨rfl,d',rfl,hv⟩
 refine⟨ocs (oca 10 rfl) (ocn _),?_⟩
 refine Fw.fin ?_
 refine Jt (Ed rfl (fun k185=>?_) (fun k185=>?_))
 refine Js (To.g (To.f eY ?_))
 refine Jlo 10 c3 ?_
 refine Ja (Jn (Jt (Jrt (Jbr (To.tr (Iw (Fy (Gu (Jk (Kt ?_))))))))))
 refine Je1 results41 ?_
 exact⟨x.b,d',rfl,rfl,vO om hfa hka hv ((aEh k185).symm)⟩
 refine Jsp (Jbn (Jt (Js (To.g (Jm ?_)))))
 refine Jr (Mf rfl rfl rfl om) ?_
 refine Ja (Jn (Jt (Jrt (Iw (Fy (Gu (Jk (Kt ?_))))))))
 refine Je1 results41 ?_
 exact⟨((a+1:Nat):Int),d',rfl,rfl,vO om hfa hka hv ((aEa (by rw[show decide (s.dsk+d.val.disks∈s.fail)=false from k185];decide)).symm)⟩
 refine To.g (Jm ?_)
 refine Jnc ?_
 refine To.f QH ?_
 refine To.u (Up.store (i:=2) rfl rfl rfl c4 rfl rfl (bt1 rfl)) ?_
 refine Jn (Jbn (Jt (Js (To.g (Jm ?_)))))
 refine Jr (Mf rfl rfl rfl om) ?_
 refine Ja (Jn (Jt (Jrt (Iw (Fy (Gu (Df (Du ?_))))))))
 refine Je1 results41 ?_
 exact⟨((a+1:Nat):Int),(⟨d.Av,d.qv,d.vars,d.At,d.qt,d.tabs,⟨d.dk.A,d.dk.q,d.dk.l⟩,d.Ae,d.qe,d.effs,d.cost,d.As,d.qs,d.stack,d.next,d.sends,d.disks,true⟩:Dm),rfl,rfl,OZ om rfl⟩
end Go.Proofs.YtlihklladkagpaaGreatDoor

/- Own text. -/
import Derived.Test.YtlihklladkagpaaGreatDoorXe
set_option linter.unusedVariables false
set_option linter.unusedSimpArgs false
set_option maxHeartbeats 2000000
set_option maxRecDepth 100000
namespace Go.Proofs.YtlihklladkagpaaGreatDoor
open Go.Proofs.Tryz
open Go.RowKit Go.Flow Go.Mem Go.Sep
def Ry(d:Dm):Prop:=(∀x∈d.tabs,x.l.length≤x.q)∧d.dk.l.length≤d.dk.q
structure Okv(s:Sm)(d:Dv):Prop where
 tabs:∀t∈d.tabs,Good t
 disk:Good d.disk
 asc:xA s.fail
 fail:s.fail.length≤1000000
 effs:d.effs.length≤2000000
 sends:0≤d.sends∧d.sends≤8
 disks:0≤d.disks∧d.disks≤2000000
 dsk:0≤s.dsk∧s.dsk≤1000000000
theorem Ih{T:List Ef}{e:Ef}{Γ:List Ai}(h:ros aLz e.A e.args∈Γ):∀p∈(T++[e]).map Ef.ar,p∈T.map Ef.ar∨ros aLz p.1 p.2∈Γ:=fun p hp=>by
 rw[aEq]at hp
 rcases aFi.1 hp with h1|h1
 ·exact .inl h1
 ·rw[aEr.1 h1];exact .inr h
theorem AX(b:Nat)(s:Sm)(d:Dm)(x:Ins)(hop:((x.op:Nat):Int)=30∨((x.op:Nat):Int)=31)(hf:Fit s x d.val)(ho:Okv s d.val)(hc:Ry d):
    Dz 115 [pv b, .agg (Ins.cells x).toArray] [box b (cD s d) 123,rows aLz 2 1 d.Av d.qv d.vars,rows Tb.cells 54 1 d.At d.qt d.tabs,De Be (d.tabs.map Tb.ar),ros Be d.dk.A d.dk.l,rows Ef.cells 86 8 d.Ae d.qe d.effs,De aLz (d.effs.map Ef.ar),rows aLz 2 1 d.As d.qs d.stack] (fun v Γ'=>v= .tuple #[]∧∃d':Dm,Γ'=[box b (cD s d') 123,rows aLz 2 1 d'.Av d'.qv d'.vars,rows Tb.cells 54 1 d'.At d'.qt d'.tabs,De Be (d'.tabs.map Tb.ar),ros Be d'.dk.A d'.dk.l,rows Ef.cells 86 8 d'.Ae d'.qe d'.effs,De aLz (d'.effs.map Ef.ar),rows aLz 2 1 d'.As d'.qs d'.stack]∧d'.val=Ps x d.val∧Ry d'):=by
 have hht:d.stack.length≤4001:=hf.height
 have hpp:Fx x≤((d.stack.length:Nat):Int):=hf.pops
 have hpo:=Ql x
 have hsn:0≤x.n∧x.n≤4:=hf.sends hop
 have hss:0≤d.sends∧d.sends≤8:=ho.sends
 have hel:d.effs.length≤2000000:=by have:(d.effs.map Ef.val).length≤2000000:=ho.effs;simpa using this
 obtain⟨kn,hkn⟩:∃kn:Nat,x.n=((kn:Nat):Int):=⟨x.n.toNat,by omega⟩
 have hknl:kn≤d.stack.length:=om
 refine Am func115 ntmps115 fun w0=>?_
 refine Js (To.g (Jbo fun b3=>?_))
 refine Jz 12 ?_
 refine Jcp rfl ?_ ?_<;>intro c10
 refine Jz 10 ?_
 refine Du (Co (.inl rfl) results115 ?_)
 exact⟨rfl,(⟨d.Av,d.qv,d.vars,d.At,d.qt,d.tabs,⟨d.dk.A,d.dk.q,d.dk.l⟩,d.Ae,d.qe,d.effs,d.cost,d.As,d.qs,d.stack,d.next,d.sends,d.disks,true⟩:Dm),rfl,by unfold Ps;rw[aEh (show d.val.sends=8 from c10)];rfl,hc⟩
 refine Jz 8 ?_
 refine Jr (Hl rfl rfl rfl om) ?_
 refine Jz 6 ?_
 refine Jfw [] [0,1,2,5,103,4,106,7,8] (ocn _) ?_
 refine Jz 7 ?_
 refine Fw.f rfl (Cr (v':=nv (d.stack.length-kn)) (congrArg iv om) (Gi rfl rfl rfl om)) ?_
 refine Jz 4 ?_
 refine Lt (p:=d.stack.length≤d.qs) (fun w hw=>Mw 8 rfl hw) (fun hqs=>?_)
 have hdl:(d.stack.drop (d.stack.length-kn)).length≤1000000:=by rw[aFk];omega
 refine Pp [] [⟨0,[],0⟩,⟨2,[],0⟩,⟨4,[],0⟩,⟨5,[],0⟩,⟨6,[],0⟩,⟨8,[],0⟩,⟨7,[],1⟩,⟨9,[],0⟩,⟨10,[],4⟩,⟨1,[],1⟩,⟨3,[],1⟩,⟨11,[10],0⟩,⟨12,[],2⟩,⟨13,[10,12],5⟩] mixed.h (by kernel_rfl) (ocn _) (Jz 7 ?_)
 refine Fw.f rfl (Cr (v':= .slice (Hr d.As d.qs (d.stack.length-kn) 1) (d.stack.drop (d.stack.length-kn)).length (d.qs-(d.stack.length-kn))) (congrArg (fun z=>Value.slice (Hr d.As d.qs (d.stack.length-kn) 1) z (d.qs-(d.stack.length-kn))) (aFk).symm) (Mh (lo:=d.stack.length-kn) rfl s28 rfl rfl om)) ?_
 refine Gj rfl rfl rfl rfl rfl .fc (iL (Hr d.As d.qs (d.stack.length-kn) 1) (d.qs-(d.stack.length-kn)) (d.stack.drop (d.stack.length-kn)) hdl) rfl (ocs (dF Cy 8 rfl hqs om) (ocn _)) ?_
 rintro _ _ ⟨Bc,qc,rfl,rfl⟩
 refine⟨rfl,?_⟩
 refine Jz 2 ?_
 refine Fw.f rfl (.bd [.int .u8 1,iv x.a,iv x.b,iv 0,iv 0,iv 0, .bool false,vs Bc (d.stack.drop (d.stack.length-kn)) qc]) ?_
 refine Fw.mk rfl rfl rfl rfl rfl (Mk.alloc rfl z86) ?_
 rintro _ _ ⟨b5,rfl,rfl⟩
 refine Fw.up rfl rfl rfl (Bl (i:=0) rfl rfl rfl r86 rfl rfl rfl (bta rfl)) (ocn _) ?_
 refine Jz 3 ?_
 refine Le (Cq (Jz 5 ?_))
 refine Jlo 3 c28 ?_
 refine Jz 1 ?_
 refine Jr (Cr (v':= .slice d.As (d.stack.take (d.stack.length-kn)).length d.qs) (congrArg (fun z=>Value.slice d.As z d.qs) (by rw[aEe];omega)) (Eo (hi:=d.stack.length-kn) rfl s28 rfl rfl om)) ?_
 refine Jz 2 ?_
 refine To.u (Up.store (i:=3) rfl rfl rfl c28 rfl rfl (bt1 rfl)) ?_
 refine Jz 4 ?_
 refine Ux (eP Cy (d.stack.length-kn) om ?_)
 have htk:(d.stack.take (d.stack.length-kn)).length=d.stack.length-kn:=by rw[aEe];omega
 refine Jz 6 ?_
 refine Jcp rfl ?_ ?_<;>intro c52
 have h31:(x.op:Int)=31:=by first|exact c52|omega
 have hkl:kn<d.stack.length:=om
 refine Jz 2 ?_
 refine Jcf [4,0] (Ni b s (⟨d.Av,d.qv,d.vars,d.At,d.qt,d.tabs,⟨d.dk.A,d.dk.q,d.dk.l⟩,d.Ae,d.qe,d.effs,d.cost,d.As,d.qs,(d.stack.take (d.stack.length-kn)),d.next,d.sends+1,d.disks,d.fault⟩:Dm) (by first|omega|(simp only[lap,aEf,lc1,ln0];omega))) ?_
 rintro _ _ ⟨rfl,rfl⟩
 refine Jz 6 ?_
 refine Jfw [] [0,1,2,3,4,105,106,207,8508,9,10,11,512] (ocn _) ?_
 refine Jz 7 ?_
 refine Es [.int .u8 2,iv x.a,iv x.b,iv ((d.stack.take (d.stack.length-kn)).getLastD 0),iv 0,iv 0, .bool false,vs Bc (d.stack.drop (d.stack.length-kn)) qc] fun b64=>?_
 refine Fw.ge rfl rfl rfl rfl (Bg Zq (i:=10) (j:=0) (el:=(⟨2,x.a,x.b,(d.stack.take (d.stack.length-kn)).getLastD 0,0,0,false,Bc,qc,(d.stack.drop (d.stack.length-kn))⟩:Ef)) rfl s68 rfl rfl rfl rfl rfl om om) ?_
 rintro _ _ ⟨A65,q65,rfl,rfl⟩
 refine⟨ocn _,?_⟩
 refine Jz 3 ?_
 refine Fw.up rfl rfl rfl (Up.store (i:=1) rfl rfl rfl c68 rfl rfl (bt1 rfl)) (ocn _) ?_
 refine Fw.fin ?_
 refine La ((d.effs++[(⟨2,x.a,x.b,(d.stack.take (d.stack.length-kn)).getLastD 0,0,0,false,Bc,qc,(d.stack.drop (d.stack.length-kn))⟩:Ef)]).map Ef.ar) 11 rfl (Ih (mog (i:=3) rfl)) (Iw (Lj (Iu (Er (Df (Cj (Cj (Cj (Cj (Cj (Ej (Co (.inr rfl) results115 ?_))))))))))))
 exact⟨rfl,(⟨d.Av,d.qv,d.vars,d.At,d.qt,d.tabs,⟨d.dk.A,d.dk.q,d.dk.l⟩,A65,q65,(d.effs++[(⟨2,x.a,x.b,(d.stack.take (d.stack.length-kn)).getLastD 0,0,0,false,Bc,qc,(d.stack.drop (d.stack.length-kn))⟩:Ef)]),d.cost,d.As,d.qs,((d.stack.take (d.stack.length-kn)).dropLast),d.next,d.sends+1,d.disks,d.fault⟩:Dm),rfl,by unfold Ps;rw[aEa (show¬d.val.sends=8 from c10)];simp only[];rw[aEh (show((x.op:Nat):Int)=31 from c52)];simp[Dm.val,hkn,Ef.val],hc⟩
 refine Jsp (Jt (Jfw [] [0,1,2,3,4,105,106,207,8508,9,10,11,512] (ocn _) ?_))
 refine Jz 7 ?_
 refine Es [.int .u8 1,iv x.a,iv x.b,iv 0,iv 0,iv 0, .bool false,vs Bc (d.stack.drop (d.stack.length-kn)) qc] fun b64_2=>?_
 refine Fw.ge rfl rfl rfl rfl (Bg Zq (i:=10) (j:=0) (el:=(⟨1,x.a,x.b,0,0,0,false,Bc,qc,(d.stack.drop (d.stack.length-kn))⟩:Ef)) rfl s68 rfl rfl rfl rfl rfl om om) ?_
 rintro _ _ ⟨A65_2,q65_2,rfl,rfl⟩
 refine⟨ocn _,?_⟩
 refine Jz 3 ?_
 refine Fw.up rfl rfl rfl (Up.store (i:=5) rfl rfl rfl c68 rfl rfl (bt1 rfl)) (ocn _) ?_
 refine Fw.fin ?_
 refine La ((d.effs++[(⟨1,x.a,x.b,0,0,0,false,Bc,qc,(d.stack.drop (d.stack.length-kn))⟩:Ef)]).map Ef.ar) 11 rfl (Ih (mog (i:=2) rfl)) (Iw (Iu (Er (Dl (Df (Cj (Cj (Cj (Cj (Cj (Cj (Co (.inr rfl) results115 ?_))))))))))))
 exact⟨rfl,(⟨d.Av,d.qv,d.vars,d.At,d.qt,d.tabs,⟨d.dk.A,d.dk.q,d.dk.l⟩,A65_2,q65_2,(d.effs++[(⟨1,x.a,x.b,0,0,0,false,Bc,qc,(d.stack.drop (d.stack.length-kn))⟩:Ef)]),d.cost,d.As,d.qs,(d.stack.take (d.stack.length-kn)),d.next,d.sends+1,d.disks,d.fault⟩:Dm),rfl,by unfold Ps;rw[aEa (show¬d.val.sends=8 from c10)];simp only[];rw[aEa (show¬((x.op:Nat):Int)=31 from c52)];simp[Dm.val,hkn,Ef.val],hc⟩
theorem AY(b:Nat)(s:Sm)(d:Dm)(x:Ins)(hop:((x.op:Nat):Int)=32∨((x.op:Nat):Int)=33)(hf:Fit s x d.val)(ho:Okv s d.val)(hc:Ry d):
    Dz 116 [pv b, .agg (Ins.cells x).toArray] [box b (cD s d) 123,rows aLz 2 1 d.Av d.qv d.vars,rows Tb.cells 54 1 d.At d.qt d.tabs,De Be (d.tabs.map Tb.ar),ros Be d.dk.A d.dk.l,rows Ef.cells 86 8 d.Ae d.qe d.effs,De aLz (d.effs.map Ef.ar),rows aLz 2 1 d.As d.qs d.stack,ros aLz s.Af s.fail] (fun v Γ'=>v= .tuple #[]∧∃d':Dm,Γ'=[box b (cD s d') 123,rows aLz 2 1 d'.Av d'.qv d'.vars,rows Tb.cells 54 1 d'.At d'.qt d'.tabs,De Be (d'.tabs.map Tb.ar),ros Be d'.dk.A d'.dk.l,rows Ef.cells 86 8 d'.Ae d'.qe d'.effs,De aLz (d'.effs.map Ef.ar),rows aLz 2 1 d'.As d'.qs d'.stack]∧d'.val=Ng s x d.val∧Ry d'):=by
 have hht:d.stack.length≤4001:=hf.height
 have hpp:Fx x≤((d.stack.length:Nat):Int):=hf.pops
 have hpo:=Ql x
 have hvar:((x.op:Nat):Int)=2∨((x.op:Nat):Int)=24∨((x.op:Nat):Int)=33→0≤x.a∧x.a<((d.vars.length:Nat):Int):=hf.var
 have hdd:0≤d.disks∧d.disks≤2000000:=ho.disks
 have hds:0≤s.dsk∧s.dsk≤1000000000:=ho.dsk
 have hgd:Good d.dk.l:=ho.disk
 have hgl:=hgd.len
 have hel:d.effs.length≤2000000:=by have:(d.effs.map Ef.val).length≤2000000:=ho.effs;simpa using this
 refine Am func116 ntmps116 fun w0=>?_
 refine Js (To.g (oF rfl rfl rfl rfl rfl rfl (fun b3=>?_)))
 refine Jn (Jt (Js (Jfw [] [0,1,2,3,5,6,7,8,10,11,12,104,109,113,14,315,16,17,18,19,20] (ocn _) ?_)))
 refine Ib ?_
 refine Fw.nc ?_
 refine Ep zS ?_
 refine Ep WM ?_
 refine Ib ?_
 refine Fw.nc ?_
 refine Ep zS ?_
 refine Ep WK ?_
 refine Ib ?_
 refine Fw.nc ?_
 refine Ep oQ ?_
 refine Fw.lo 1 c62 ?_
 refine Fw.lo 1 c3 ?_
 refine Fw.lo 1 c3 ?_
 refine Fw.f rfl (Hl rfl rfl rfl om) ?_
 refine Fw.qf (aBf s.Af s.qf s.fail (s.dsk+d.disks) ho.fail ho.asc) (ocs (oca 9 rfl) (ocn _)) ?_
 refine Ib ?_
 refine Fw.f rfl (Rd.extract rfl rfl rfl) ?_
 refine Fw.f rfl (Rd.extract rfl rfl rfl) ?_
 refine Fw.f rfl (Rd.assign rfl rfl) ?_
 refine Fw.f rfl (Rd.assign rfl rfl) ?_
 refine Fw.fin ?_
 refine Jt (Js (To.g (Jm ?_)))
 refine Jnc ?_
 refine To.f oQ ?_
 refine Jlo 1 c3 ?_
 refine Jr (Hl rfl rfl rfl om) ?_
 refine Jnc ?_
 refine To.f oQ ?_
 refine To.u (Up.store (i:=1) rfl rfl rfl c3 rfl rfl (bt1 rfl)) ?_
 refine Jn (Jt (Js (To.g (Jm ?_))))
 refine Jr (.bd [.int .u8 4,iv 0,iv 0,iv 0,iv 0,iv 0, .bool (decide (s.dsk+d.disks∈s.fail)),nz]) ?_
 refine To.alloc rfl rfl rfl rfl z86 (fun b6=>?_)
 refine To.u (Bl (i:=0) rfl rfl rfl r86 rfl rfl rfl (bta rfl)) ?_
 refine Jn (Jt (Js (Js (To.g (To.f oP ?_)))))
 refine Jlo 1 WP ?_
 refine To.eq ?_
 refine Jn (Jt (Jcp rfl (fun k37=>?_) (fun k37=>?_)))
 refine To.g (Jm ?_)
 refine Jcf [2,8] (Ni b s (⟨d.Av,d.qv,d.vars,d.At,d.qt,d.tabs,⟨d.dk.A,d.dk.q,d.dk.l⟩,d.Ae,d.qe,d.effs,d.cost,d.As,d.qs,d.stack,d.next,d.sends,d.disks+1,d.fault⟩:Dm) (by first|omega|(simp only[lap,aEf,lc1,ln0];omega))) ?_
 rintro _ _ ⟨rfl,rfl⟩
 refine To.f WO ?_
 refine To.u (Up.store (i:=2) rfl rfl rfl c84 rfl rfl (bt1 rfl)) ?_
 refine To.f oO ?_
 refine To.u (Up.store (i:=2) rfl rfl rfl c2 rfl rfl (bt1 rfl)) ?_
 refine Jn (Jt (Js (To.g (Jm ?_))))
 refine Jcf [0,0] (Ni b s (⟨d.Av,d.qv,d.vars,d.At,d.qt,d.tabs,⟨d.dk.A,d.dk.q,d.dk.l⟩,d.Ae,d.qe,d.effs,d.cost,d.As,d.qs,(d.stack.dropLast),d.next,d.sends,d.disks+1,d.fault⟩:Dm) (by first|omega|(simp only[lap,aEf,lc1,ln0];omega))) ?_
 rintro _ _ ⟨rfl,rfl⟩
 refine To.f oN ?_
 refine To.u (Up.store (i:=2) rfl rfl rfl c2 rfl rfl (bt1 rfl)) ?_
 refine Jn (Jt (Js (To.b (Js (To.g (Jm ?_))))))
 refine Ja (Jn (Jt ?_))
 refine Ed rfl ?_ ?_<;>intro k69
 refine To.g (Jm ?_)
 refine To.f zR ?_
 refine Jlo 3 c3 ?_
 refine Jnc ?_
 refine To.f zT ?_
 refine To.u (Up.store (i:=0) rfl rfl rfl c3 rfl rfl (bt1 rfl)) ?_
 refine Jn (Jbn (Jt (Mg (c:=ros aLz none []) rfl rfl (fun w=> .inl rfl) (Jfw [] [0,1,2,3,4,105,106,207,8508,9,10,11,512] (ocn _) ?_))))
 refine Ib ?_
 refine Ib ?_
 refine Fw.nc ?_
 refine Ep Oz ?_
 refine Ep Vp ?_
 refine Fw.lo 1 c68 ?_
 refine Fw.r rfl (Ij (i:=3) rfl rfl r86 rfl Py rfl) ?_
 refine Es [.int .u8 3,iv 0,iv 0,iv 0,iv ((d.stack.dropLast).getLastD 0),iv (d.stack.getLastD 0), .bool (decide (s.dsk+d.disks∈s.fail)),nz] fun b97=>?_
 refine Fw.ge rfl rfl rfl rfl (Bg Zq (i:=10) (j:=0) (el:=(⟨3,0,0,0,(d.stack.dropLast).getLastD 0,d.stack.getLastD 0,(decide (s.dsk+d.disks∈s.fail)),none,0,([]:List Int)⟩:Ef)) rfl s68 rfl rfl rfl rfl rfl om om) ?_
 rintro _ _ ⟨A98,q98,rfl,rfl⟩
 refine⟨ocn _,?_⟩
 refine Fw.nc ?_
 refine Ep Oz ?_
 refine Ep Vp ?_
 refine Fw.up rfl rfl rfl (Up.store (i:=2) rfl rfl rfl c68 rfl rfl (bt1 rfl)) (ocn _) ?_
 refine Fw.fin ?_
 refine La ((d.effs++[(⟨3,0,0,0,(d.stack.dropLast).getLastD 0,d.stack.getLastD 0,(decide (s.dsk+d.disks∈s.fail)),none,0,([]:List Int)⟩:Ef)]).map Ef.ar) 11 rfl (Ih (mog (i:=1) rfl)) (Pz (Iw (Lj (Iu (Cu (Df (Cj (Cj (Cj (Cj (Cj (Ej (Co (.inr rfl) results116 ?_)))))))))))))
 have hb:decide (s.dsk+d.val.disks∈s.fail)=true:=k69
 have hm:s.dsk+d.disks∈s.fail:=aGc k69
 exact⟨rfl,(⟨d.Av,d.qv,d.vars,d.At,d.qt,d.tabs,⟨d.dk.A,d.dk.q,d.dk.l⟩,A98,q98,(d.effs++[(⟨3,0,0,0,(d.stack.dropLast).getLastD 0,d.stack.getLastD 0,(decide (s.dsk+d.disks∈s.fail)),none,0,([]:List Int)⟩:Ef)]),d.cost,d.As,d.qs,((d.stack.dropLast).dropLast),x.b,d.sends,d.disks+1,d.fault⟩:Dm),rfl,by unfold Ng;simp only[];rw[aEh (show((x.op:Nat):Int)=32 from k37),hb];simp[Dm.val,Ef.val,hm],hc⟩
 refine Js (To.g (To.f oP ?_))
 refine Jlo 3 WP ?_
 refine To.eq ?_
 refine Ja (Jn (Jt ?_))
 refine Gm (congrArg (fun b=>some (Value.bool b)) (aEk k37)) (Jfw [] [0,1,2,3,4,5,7,106,108,509] (ocn _) ?_)
 refine Ib ?_
 refine Fw.nc ?_
 refine Ep Oz ?_
 refine Ep wS ?_
 refine Ep JO ?_
 refine Ep oN ?_
 refine Ep oO ?_
 refine Fw.lo 2 c2 ?_
 refine Fw.lo 2 c2 ?_
 refine Da [0,6] (RA b s (⟨d.Av,d.qv,d.vars,d.At,d.qt,d.tabs,⟨d.dk.A,d.dk.q,d.dk.l⟩,d.Ae,d.qe,d.effs,d.cost,d.As,d.qs,((d.stack.dropLast).dropLast),d.next,d.sends,d.disks+1,d.fault⟩:Dm) ((d.stack.dropLast).getLastD 0) (d.stack.getLastD 0) hgd hc.2) ?_
 rintro _ _ ⟨rfl,t,rfl,ht,htq⟩
 refine⟨ocn _,?_⟩
 refine Fw.fin ?_
 refine Jbn (Jt (Mg (c:=ros aLz none []) rfl rfl (fun w=> .inl rfl) (Jfw [] [0,1,2,3,4,105,106,207,8508,9,10,11,512] (ocn _) ?_)))
 refine Ib ?_
 refine Ib ?_
 refine Fw.nc ?_
 refine Ep Oz ?_
 refine Ep Vp ?_
 refine Fw.lo 1 c68 ?_
 refine Fw.r rfl (Ij (i:=4) rfl rfl r86 rfl Py rfl) ?_
 refine Es [.int .u8 3,iv 0,iv 0,iv 0,iv ((d.stack.dropLast).getLastD 0),iv (d.stack.getLastD 0), .bool (decide (s.dsk+d.disks∈s.fail)),nz] fun b97_2=>?_
 refine Fw.ge rfl rfl rfl rfl (Bg Zq (i:=10) (j:=0) (el:=(⟨3,0,0,0,(d.stack.dropLast).getLastD 0,d.stack.getLastD 0,(decide (s.dsk+d.disks∈s.fail)),none,0,([]:List Int)⟩:Ef)) rfl s68 rfl rfl rfl rfl rfl om om) ?_
 rintro _ _ ⟨A98_2,q98_2,rfl,rfl⟩
 refine⟨ocn _,?_⟩
 refine Fw.nc ?_
 refine Ep Oz ?_
 refine Ep Vp ?_
 refine Fw.up rfl rfl rfl (Up.store (i:=2) rfl rfl rfl c68 rfl rfl (bt1 rfl)) (ocn _) ?_
 refine Fw.fin ?_
 refine Ot [(0,pv b),(1, .agg (Ins.cells x).toArray),(3,pv b3),(5, .bool (decide (s.dsk+d.disks∈s.fail))),(6,pv b6),(37, .bool (decide (((x.op:Nat):Int)=32))),(69, .bool (decide (s.dsk+d.disks∈s.fail))),(76, .bool (decide (((x.op:Nat):Int)=32)))] sb (La ((d.effs++[(⟨3,0,0,0,(d.stack.dropLast).getLastD 0,d.stack.getLastD 0,(decide (s.dsk+d.disks∈s.fail)),none,0,([]:List Int)⟩:Ef)]).map Ef.ar) 11 rfl (Ih (mog (i:=1) rfl)) (Pz (Iw (Xp (Lj (Cu (Df (Cj (Ic (Cj (Cj (Cj (Ej (Co (.inr rfl) results116 ?_))))))))))))))
 have hb:decide (s.dsk+d.val.disks∈s.fail)=false:=k69
 have hm:¬s.dsk+d.disks∈s.fail:=aGq k69
 exact⟨rfl,(⟨d.Av,d.qv,d.vars,d.At,d.qt,d.tabs,⟨t.A,t.q,t.l⟩,A98_2,q98_2,(d.effs++[(⟨3,0,0,0,(d.stack.dropLast).getLastD 0,d.stack.getLastD 0,(decide (s.dsk+d.disks∈s.fail)),none,0,([]:List Int)⟩:Ef)]),d.cost,d.As,d.qs,((d.stack.dropLast).dropLast),d.next,d.sends,d.disks+1,d.fault⟩:Dm),rfl,by unfold Ng;simp only[];rw[aEh (show((x.op:Nat):Int)=32 from k37),hb];simp[Dm.val,Ef.val,hm,ht],⟨hc.1,htq⟩⟩
 refine Jsp (Jt (Js (To.g (Jm ?_))))
 refine Jcf [2,8] (Ni b s (⟨d.Av,d.qv,d.vars,d.At,d.qt,d.tabs,⟨d.dk.A,d.dk.q,d.dk.l⟩,d.Ae,d.qe,d.effs,d.cost,d.As,d.qs,d.stack,d.next,d.sends,d.disks+1,d.fault⟩:Dm) (by first|omega|(simp only[lap,aEf,lc1,ln0];omega))) ?_
 rintro _ _ ⟨rfl,rfl⟩
 refine To.f oN ?_
 refine To.u (Up.store (i:=2) rfl rfl rfl c2 rfl rfl (bt1 rfl)) ?_
 refine Jn (Jt (Js (To.b (Js (To.g (Jm ?_))))))
 refine Ja (Jn (Jt ?_))
 refine Ed rfl ?_ ?_<;>intro k69
 refine To.g (Jm ?_)
 refine To.f zR ?_
 refine Jlo 3 c3 ?_
 refine Jnc ?_
 refine To.f zT ?_
 refine To.u (Up.store (i:=0) rfl rfl rfl c3 rfl rfl (bt1 rfl)) ?_
 refine Jn (Jbn (Jt (Mg (c:=ros aLz none []) rfl rfl (fun w=> .inl rfl) (Jfw [] [0,1,2,3,4,105,106,207,8508,9,10,11,512] (ocn _) ?_))))
 refine Ib ?_
 refine Ib ?_
 refine Fw.nc ?_
 refine Ep Oz ?_
 refine Ep Vp ?_
 refine Fw.lo 1 c68 ?_
 refine Fw.r rfl (Ij (i:=3) rfl rfl r86 rfl Py rfl) ?_
 refine Es [.int .u8 4,iv 0,iv 0,iv 0,iv (d.stack.getLastD 0),iv 0, .bool (decide (s.dsk+d.disks∈s.fail)),nz] fun b97_3=>?_
 refine Fw.ge rfl rfl rfl rfl (Bg Zq (i:=10) (j:=0) (el:=(⟨4,0,0,0,d.stack.getLastD 0,0,(decide (s.dsk+d.disks∈s.fail)),none,0,([]:List Int)⟩:Ef)) rfl s68 rfl rfl rfl rfl rfl om om) ?_
 rintro _ _ ⟨A98_3,q98_3,rfl,rfl⟩
 refine⟨ocn _,?_⟩
 refine Fw.nc ?_
 refine Ep Oz ?_
 refine Ep Vp ?_
 refine Fw.up rfl rfl rfl (Up.store (i:=2) rfl rfl rfl c68 rfl rfl (bt1 rfl)) (ocn _) ?_
 refine Fw.fin ?_
 refine La ((d.effs++[(⟨4,0,0,0,d.stack.getLastD 0,0,(decide (s.dsk+d.disks∈s.fail)),none,0,([]:List Int)⟩:Ef)]).map Ef.ar) 11 rfl (Ih (mog (i:=1) rfl)) (Pz (Iw (Lj (Iu (Cu (Df (Cj (Cj (Cj (Cj (Cj (Ej (Co (.inr rfl) results116 ?_)))))))))))))
 have hb:decide (s.dsk+d.val.disks∈s.fail)=true:=k69
 have hm:s.dsk+d.disks∈s.fail:=aGc k69
 exact⟨rfl,(⟨d.Av,d.qv,d.vars,d.At,d.qt,d.tabs,⟨d.dk.A,d.dk.q,d.dk.l⟩,A98_3,q98_3,(d.effs++[(⟨4,0,0,0,d.stack.getLastD 0,0,(decide (s.dsk+d.disks∈s.fail)),none,0,([]:List Int)⟩:Ef)]),d.cost,d.As,d.qs,(d.stack.dropLast),x.b,d.sends,d.disks+1,d.fault⟩:Dm),rfl,by unfold Ng;simp only[];rw[aEa (show¬((x.op:Nat):Int)=32 from k37),hb];simp[Dm.val,Ef.val,hm],hc⟩
 refine Js (To.g (To.f oP ?_))
 refine Jlo 3 WP ?_
 refine To.eq ?_
 refine Ja (Jn (Jt ?_))
 refine vZ (congrArg (fun b=>some (Value.bool b)) (aEo k37)) (Js (Jfw [] [0,1,2,3,4,6,105,107,308,9,10,11,12,513] (ocn _) ?_))
 refine Ib ?_
 refine Fw.nc ?_
 refine Ep Oz ?_
 refine Ep wS ?_
 refine Ep JO ?_
 refine Ep oN ?_
 refine Fw.r rfl (Ij (i:=0) (us:=[vs d.dk.A d.dk.l d.dk.q]) rfl rfl r54 rfl (Fh (n:=1) rfl) rfl) ?_
 refine Fw.lo 2 c2 ?_
 refine Fw.qf (Zz d.dk.A d.dk.q d.dk.l (d.stack.getLastD 0) om hgd.asc) (ocs (oca 7 rfl) (ocn _)) ?_
 refine Ib ?_
 refine Fw.f rfl (Rd.extract rfl rfl rfl) ?_
 refine Fw.f rfl (Rd.extract rfl rfl rfl) ?_
 refine Ep oO ?_
 refine Fw.up rfl rfl rfl (Up.store (i:=2) rfl rfl rfl c2 rfl rfl (bt1 rfl)) (ocn _) ?_
 refine Fw.fin ?_
 refine Jt ?_
 obtain⟨ka,hka⟩:∃ka:Nat,x.a=((ka:Nat):Int):=⟨x.a.toNat,by have:=hvar om;omega⟩
 have hkl:ka<d.vars.length:=by have:=hvar om;omega
 obtain⟨y,hel2⟩:=exg d.vars ka om
 refine Jfw [] [0,1,2,3,4,6,8,105,107,109,110,511] (ocn _) ?_
 refine Ib ?_
 refine Fw.nc ?_
 refine Ep Oz ?_
 refine Ep wS ?_
 refine Ep WI ?_
 refine Ep QG ?_
 refine Ep oO ?_
 refine Fw.lo 0 c28 ?_
 refine Fw.lo 3 c3 ?_
 refine Fw.lo 2 c2 ?_
 refine Fw.r rfl (Gt (i:=4) (j:=ka) rfl rfl rfl hka s28 rfl hel2) ?_
 refine Fw.up rfl rfl rfl (Up.store (i:=4) rfl rfl rfl c2 rfl rfl (Ee Cy (y:=((Fp d.dk.l (d.stack.getLastD 0)).getD 0)) (by decide) om)) (ocn _) ?_
 refine Fw.fin ?_
 refine Ot [(0,pv b),(1, .agg (Ins.cells x).toArray),(3,pv b3),(5, .bool (decide (s.dsk+d.disks∈s.fail))),(6,pv b6),(37, .bool (decide (((x.op:Nat):Int)=32))),(69, .bool (decide (s.dsk+d.disks∈s.fail))),(76, .bool (decide (((x.op:Nat):Int)=32)))] sb (Jbn (Jt (Mg (c:=ros aLz none []) rfl rfl (fun w=> .inl rfl) (Jfw [] [0,1,2,3,4,105,106,207,8508,9,10,11,512] (ocn _) ?_))))
 refine Ib ?_
 refine Ib ?_
 refine Fw.nc ?_
 refine Ep Oz ?_
 refine Ep Vp ?_
 refine Fw.lo 1 c68 ?_
 refine Fw.r rfl (Ij (i:=3) rfl rfl r86 rfl Py rfl) ?_
 refine Es [.int .u8 4,iv 0,iv 0,iv 0,iv (d.stack.getLastD 0),iv ((Fp d.dk.l (d.stack.getLastD 0)).getD 0), .bool (decide (s.dsk+d.disks∈s.fail)),nz] fun b97_4=>?_
 refine Fw.ge rfl rfl rfl rfl (Bg Zq (i:=10) (j:=0) (el:=(⟨4,0,0,0,d.stack.getLastD 0,(Fp d.dk.l (d.stack.getLastD 0)).getD 0,(decide (s.dsk+d.disks∈s.fail)),none,0,([]:List Int)⟩:Ef)) rfl s68 rfl rfl rfl rfl rfl om om) ?_
 rintro _ _ ⟨A98_4,q98_4,rfl,rfl⟩
 refine⟨ocn _,?_⟩
 refine Fw.nc ?_
 refine Ep Oz ?_
 refine Ep Vp ?_
 refine Fw.up rfl rfl rfl (Up.store (i:=2) rfl rfl rfl c68 rfl rfl (bt1 rfl)) (ocn _) ?_
 refine Fw.fin ?_
 refine Jas [row 86 8 (some ⟨b97_4,0,none⟩) 1 1 [.int .u8 4,iv 0,iv 0,iv 0,iv (d.stack.getLastD 0),iv ((Fp d.dk.l (d.stack.getLastD 0)).getD 0), .bool (decide (s.dsk+d.disks∈s.fail)),nz],ros aLz none ([]:List Int),box b [vs d.Av (d.vars.set ka ((Fp d.dk.l (d.stack.getLastD 0)).getD 0)) d.qv,vs d.At d.tabs d.qt,vs d.dk.A d.dk.l d.dk.q,vs A98_4 (d.effs++[(⟨4,0,0,0,d.stack.getLastD 0,(Fp d.dk.l (d.stack.getLastD 0)).getD 0,(decide (s.dsk+d.disks∈s.fail)),none,0,([]:List Int)⟩:Ef)]) q98_4,iv d.cost,vs s.Ac s.code s.qc,vs s.Aa s.args s.qa,iv s.now,vs s.Ag s.flags s.qg,iv s.dsk,vs s.Af s.fail s.qf,vs d.As (d.stack.dropLast) d.qs,iv d.next,iv d.sends,iv (d.disks+1), .bool d.fault] 123,rows aLz 2 1 d.As d.qs (d.stack.dropLast),box b6 [.int .u8 4,iv 0,iv 0,iv 0,iv (d.stack.getLastD 0),iv ((Fp d.dk.l (d.stack.getLastD 0)).getD 0), .bool (decide (s.dsk+d.disks∈s.fail)),nz] 86,box b3 (Ins.cells x) 116,rows aLz 2 1 d.Av d.qv (d.vars.set ka ((Fp d.dk.l (d.stack.getLastD 0)).getD 0)),rows Tb.cells 54 1 d.At d.qt d.tabs,De Be (d.tabs.map Tb.ar),ros Be d.dk.A d.dk.l,rows Ef.cells 86 8 A98_4 q98_4 (d.effs++[(⟨4,0,0,0,d.stack.getLastD 0,(Fp d.dk.l (d.stack.getLastD 0)).getD 0,(decide (s.dsk+d.disks∈s.fail)),none,0,([]:List Int)⟩:Ef)]),De aLz (d.effs.map Ef.ar),ros aLz s.Af s.fail] (by(try unfold vs);rw[aEj]<;>rfl) (La ((d.effs++[(⟨4,0,0,0,d.stack.getLastD 0,(Fp d.dk.l (d.stack.getLastD 0)).getD 0,(decide (s.dsk+d.disks∈s.fail)),none,0,([]:List Int)⟩:Ef)]).map Ef.ar) 11 rfl (Ih (mog (i:=1) rfl)) (Pz (Iw (Lj (Iu (Cu (Df (Cj (Cj (Cj (Cj (Cj (Ej (Co (.inr rfl) results116 ?_))))))))))))))
 have hb:decide (s.dsk+d.val.disks∈s.fail)=false:=k69
 have hm:¬s.dsk+d.disks∈s.fail:=aGq k69
 exact⟨rfl,(⟨d.Av,d.qv,(d.vars.set ka ((Fp d.dk.l (d.stack.getLastD 0)).getD 0)),d.At,d.qt,d.tabs,⟨d.dk.A,d.dk.q,d.dk.l⟩,A98_4,q98_4,(d.effs++[(⟨4,0,0,0,d.stack.getLastD 0,(Fp d.dk.l (d.stack.getLastD 0)).getD 0,(decide (s.dsk+d.disks∈s.fail)),none,0,([]:List Int)⟩:Ef)]),d.cost,d.As,d.qs,(d.stack.dropLast),d.next,d.sends,d.disks+1,d.fault⟩:Dm),rfl,by unfold Ng;simp only[];rw[aEa (show¬((x.op:Nat):Int)=32 from k37),hb];simp[Dm.val,Ef.val,hm,hka],hc⟩
theorem Ww{T:List Tb}{e:Tb}{j:Nat}{Γ:List Ai}(h:ros Be e.A e.l∈Γ):∀p∈(T.set j e).map Tb.ar,p∈T.map Tb.ar∨ros Be p.1 p.2∈Γ:=fun p hp=>by
 obtain⟨y,hy,rfl⟩:=aEv.1 hp
 rcases List.mem_or_eq_of_mem_set hy with h1|h1
 ·exact .inl (aEv.2 ⟨y,h1,rfl⟩)
 ·rw[h1];exact .inr h
theorem iZ{T:List Tb}{e:Tb}{j:Nat}(h:∀x∈T,x.l.length≤x.q)(h2:e.l.length≤e.q):∀x∈T.set j e,x.l.length≤x.q:=fun x hx=>by
 rcases List.mem_or_eq_of_mem_set hx with h3|h3
 ·exact h x h3
 ·rw[h3];exact h2
theorem map_set{T:List Tb}{e:Tb}{j:Nat}:(T.set j e).map Tb.l=(T.map Tb.l).set j e.l:=List.map_set
theorem Vv(b:Nat)(s:Sm)(d:Dm)(x:Ins)(ka:Nat)(t:Tb)(ht:d.tabs[ka]?=some t)(hka:x.a=((ka:Nat):Int))(hop:((x.op:Nat):Int)=6∨((x.op:Nat):Int)=7∨((x.op:Nat):Int)=8∨((x.op:Nat):Int)=25∨((x.op:Nat):Int)=26)(hf:Fit s x d.val)(ho:Okv s d.val)(hc:Ry d):
    Dz 117 [pv b, .int .u8 ((x.op:Nat):Int), .pointer (some ⟨blk d.At,ofs d.At+ka*1,none⟩)] [box b (cD s d) 123,rows aLz 2 1 d.Av d.qv d.vars,rows Tb.cells 54 1 d.At d.qt d.tabs,De Be (d.tabs.map Tb.ar),ros Be d.dk.A d.dk.l,rows Ef.cells 86 8 d.Ae d.qe d.effs,De aLz (d.effs.map Ef.ar),rows aLz 2 1 d.As d.qs d.stack] (fun v Γ'=>v= .tuple #[]∧∃d':Dm,Γ'=[box b (cD s d') 123,rows aLz 2 1 d'.Av d'.qv d'.vars,rows Tb.cells 54 1 d'.At d'.qt d'.tabs,De Be (d'.tabs.map Tb.ar),ros Be d'.dk.A d'.dk.l,rows Ef.cells 86 8 d'.Ae d'.qe d'.effs,De aLz (d'.effs.map Ef.ar),rows aLz 2 1 d'.As d'.qs d'.stack]∧d'.val=Gb x d.val∧Ry d'):=by
 have hht:d.stack.length≤4001:=hf.height
 have hpp:Fx x≤((d.stack.length:Nat):Int):=hf.pops
 have hpo:=Ql x
 have htm:=mog ht
 have hg:Good t.l:=ho.tabs t.l (aEv.2 ⟨t,htm,rfl⟩)
 have hgl:=hg.len
 have hq:t.l.length≤t.q:=hc.1 t htm
 have hgd:d.val.tabs.getD x.a.toNat []=t.l:=by rw[hka,Int.toNat_natCast,aEx];show((d.tabs.map Tb.l)[ka]?).getD []=t.l;rw[aEp,ht];rfl
 have hkl:ka<d.tabs.length:=(aEc.1 ht).1
 refine Am func117 ntmps117 fun w0=>?_
 refine Jz 12 ?_
 refine Jcp rfl ?_ ?_<;>intro k12
 refine Js (Jfw [rows Tb.cells 54 1 d.At d.qt d.tabs] [0,1,2,3,504,305,6,7,8,9,10] (ocs (oca 2 rfl) (ocn _)) ?_)
 refine Jz 4 ?_
 refine Da [0,6] (Ni b s d (by first|omega|(simp only[lap,aEf,lc1,ln0];omega))) ?_
 rintro _ _ ⟨rfl,rfl⟩
 refine⟨ocs (oca 3 rfl) (ocn _),?_⟩
 refine Fw.qf (Zz t.A t.q t.l (d.stack.getLastD 0) om hg.asc) (ocs (dB 4 rfl (Ou ht Tb.ar)) (ocn _)) ?_
 refine Jz 10 ?_
 refine Jcf [0,0] (Pg b s (⟨d.Av,d.qv,d.vars,d.At,d.qt,d.tabs,⟨d.dk.A,d.dk.q,d.dk.l⟩,d.Ae,d.qe,d.effs,d.cost,d.As,d.qs,(d.stack.dropLast),d.next,d.sends,d.disks,d.fault⟩:Dm) ((Fp t.l (d.stack.getLastD 0)).getD 0) (by first|omega|(simp only[lap,aEf,lc1,ln0];omega))) ?_
 rintro _ _ ⟨rfl,As,qs,rfl⟩
 refine Jn (Jbn (Cj (Cj (Cj (Cj (Cj (Cj (Ej (Co (.inr rfl) results117 ?_)))))))))
 exact⟨rfl,(⟨d.Av,d.qv,d.vars,d.At,d.qt,d.tabs,⟨d.dk.A,d.dk.q,d.dk.l⟩,d.Ae,d.qe,d.effs,d.cost,As,qs,((d.stack.dropLast)++[(Fp t.l (d.stack.getLastD 0)).getD 0]),d.next,d.sends,d.disks,d.fault⟩:Dm),rfl,by unfold Gb;simp only[hgd];rw[aEh (show((x.op:Nat):Int)=6 by omega)];first|rfl|(simp[Dm.val,hka,map_set,-List.map_set];done)|(simp[Dm.val,hka,map_set,-List.map_set];rfl),hc⟩
 refine Jz 6 ?_
 refine Jcp rfl ?_ ?_<;>intro k26
 refine Js (Jfw [rows Tb.cells 54 1 d.At d.qt d.tabs] [0,1,2,3,504,305,6,7,8,9,10] (ocs (oca 2 rfl) (ocn _)) ?_)
 refine Jz 4 ?_
 refine Da [0,6] (Ni b s d (by first|omega|(simp only[lap,aEf,lc1,ln0];omega))) ?_
 rintro _ _ ⟨rfl,rfl⟩
 refine⟨ocs (oca 3 rfl) (ocn _),?_⟩
 refine Fw.qf (Zz t.A t.q t.l (d.stack.getLastD 0) om hg.asc) (ocs (dB 4 rfl (Ou ht Tb.ar)) (ocn _)) ?_
 refine Jz 10 ?_
 refine Jvf (zX ((Fp t.l (d.stack.getLastD 0)).isSome)) rfl (ocn _) ?_
 refine Jcf [0,0] (Pg b s (⟨d.Av,d.qv,d.vars,d.At,d.qt,d.tabs,⟨d.dk.A,d.dk.q,d.dk.l⟩,d.Ae,d.qe,d.effs,d.cost,d.As,d.qs,(d.stack.dropLast),d.next,d.sends,d.disks,d.fault⟩:Dm) (tru ((Fp t.l (d.stack.getLastD 0)).isSome)) (by first|omega|(simp only[lap,aEf,lc1,ln0];omega))) ?_
 rintro _ _ ⟨rfl,As_2,qs_2,rfl⟩
 refine Jn (Jbn (Cj (Cj (Cj (Cj (Cj (Cj (Ej (Co (.inr rfl) results117 ?_)))))))))
 exact⟨rfl,(⟨d.Av,d.qv,d.vars,d.At,d.qt,d.tabs,⟨d.dk.A,d.dk.q,d.dk.l⟩,d.Ae,d.qe,d.effs,d.cost,As_2,qs_2,((d.stack.dropLast)++[tru ((Fp t.l (d.stack.getLastD 0)).isSome)]),d.next,d.sends,d.disks,d.fault⟩:Dm),rfl,by unfold Gb;simp only[hgd];rw[aEa (show¬((x.op:Nat):Int)=6 by omega),aEh (show((x.op:Nat):Int)=7 by omega)];first|rfl|(simp[Dm.val,hka,map_set,-List.map_set];done)|(simp[Dm.val,hka,map_set,-List.map_set];rfl),hc⟩
 refine Jz 6 ?_
 refine Jcp rfl ?_ ?_<;>intro k41
 refine Jz 5 ?_
 refine Jvf (pO t.A t.l.length t.q) rfl (ocn _) ?_
 refine Jcf [0,6] (Pg b s d ((t.l.length:Nat):Int) (by first|omega|(simp only[lap,aEf,lc1,ln0];omega))) ?_
 rintro _ _ ⟨rfl,As_3,qs_3,rfl⟩
 refine Jn (Jbn (Cj (Cj (Cj (Cj (Cj (Cj (Ej (Co (.inr rfl) results117 ?_)))))))))
 exact⟨rfl,(⟨d.Av,d.qv,d.vars,d.At,d.qt,d.tabs,⟨d.dk.A,d.dk.q,d.dk.l⟩,d.Ae,d.qe,d.effs,d.cost,As_3,qs_3,(d.stack++[((t.l.length:Nat):Int)]),d.next,d.sends,d.disks,d.fault⟩:Dm),rfl,by unfold Gb;simp only[hgd];rw[aEa (show¬((x.op:Nat):Int)=6 by omega),aEa (show¬((x.op:Nat):Int)=7 by omega),aEh (show((x.op:Nat):Int)=8 by omega)];first|rfl|(simp[Dm.val,hka,map_set,-List.map_set];done)|(simp[Dm.val,hka,map_set,-List.map_set];rfl),hc⟩
 refine Jz 6 ?_
 refine Jcp rfl ?_ ?_<;>intro k49
 refine Jz 3 ?_
 refine Jcf [0,6] (Ni b s d (by first|omega|(simp only[lap,aEf,lc1,ln0];omega))) ?_
 rintro _ _ ⟨rfl,rfl⟩
 refine Jz 3 ?_
 refine rV 4 rfl (Ou ht Tb.ar) (Jz 3 ?_)
 refine Jcf [1,1] (Ni b s (⟨d.Av,d.qv,d.vars,d.At,d.qt,d.tabs,⟨d.dk.A,d.dk.q,d.dk.l⟩,d.Ae,d.qe,d.effs,d.cost,d.As,d.qs,(d.stack.dropLast),d.next,d.sends,d.disks,d.fault⟩:Dm) (by first|omega|(simp only[lap,aEf,lc1,ln0];omega))) ?_
 rintro _ _ ⟨rfl,rfl⟩
 refine Jm ?_
 refine Jcf [4,2] (RB d.At d.qt d.tabs ka t ht ((d.stack.dropLast).getLastD 0) (d.stack.getLastD 0) hg hq) ?_
 rintro _ _ ⟨rfl,t',rfl,ht',htq⟩
 refine Jn (Jbn (Jas [rows Tb.cells 54 1 d.At d.qt (d.tabs.set ka t'),ros Be t'.A t'.l,box b [vs d.Av d.vars d.qv,vs d.At (d.tabs.set ka t') d.qt,vs d.dk.A d.dk.l d.dk.q,vs d.Ae d.effs d.qe,iv d.cost,vs s.Ac s.code s.qc,vs s.Aa s.args s.qa,iv s.now,vs s.Ag s.flags s.qg,iv s.dsk,vs s.Af s.fail s.qf,vs d.As ((d.stack.dropLast).dropLast) d.qs,iv d.next,iv d.sends,iv d.disks, .bool d.fault] 123,rows aLz 2 1 d.As d.qs ((d.stack.dropLast).dropLast),rows aLz 2 1 d.Av d.qv d.vars,De Be (d.tabs.map Tb.ar),ros Be d.dk.A d.dk.l,rows Ef.cells 86 8 d.Ae d.qe d.effs,De aLz (d.effs.map Ef.ar)] (by(try unfold vs);rw[aEj]<;>rfl) (La ((d.tabs.set ka t').map Tb.ar) 5 rfl (Ww (mog (i:=1) rfl)) (Lj (Cu (Cj (Cj (Cj (Ic (Md (Cj (Ej (Co (.inr rfl) results117 ?_)))))))))))))
 exact⟨rfl,(⟨d.Av,d.qv,d.vars,d.At,d.qt,(d.tabs.set ka t'),⟨d.dk.A,d.dk.q,d.dk.l⟩,d.Ae,d.qe,d.effs,d.cost,d.As,d.qs,((d.stack.dropLast).dropLast),d.next,d.sends,d.disks,d.fault⟩:Dm),rfl,by unfold Gb;simp only[hgd];rw[aEa (show¬((x.op:Nat):Int)=6 by omega),aEa (show¬((x.op:Nat):Int)=7 by omega),aEa (show¬((x.op:Nat):Int)=8 by omega),aEh (show((x.op:Nat):Int)=25 by omega)];first|rfl|(simp[Dm.val,hka,map_set,ht',-List.map_set];done)|(simp[Dm.val,hka,map_set,ht',-List.map_set];rfl),⟨iZ hc.1 htq,hc.2⟩⟩
 refine Jz 6 ?_
 refine Jcp rfl ?_ ?_<;>intro k58
 refine rV 3 rfl (Ou ht Tb.ar) (aHc [] 3 5 [⟨0,[],0⟩,⟨1,[],0⟩,⟨2,[],0⟩,⟨4,[],0⟩,⟨5,[],5⟩,⟨3,[],1⟩,⟨6,[],5⟩,⟨7,[],0⟩,⟨8,[],5⟩] [⟨0,[],0⟩,⟨1,[],0⟩,⟨2,[],0⟩,⟨4,[],0⟩,⟨3,[],1⟩,⟨5,[],5⟩,⟨6,[],5⟩,⟨7,[],0⟩,⟨8,[],5⟩] mixed.h rfl (by kernel_rfl) (by kernel_rfl) (by kernel_rfl) (ocn _) ?_ ?_)
 refine Jz 4 ?_
 refine Da [1,7] (Ni b s d (by first|omega|(simp only[lap,aEf,lc1,ln0];omega))) ?_
 rintro _ _ ⟨rfl,rfl⟩
 refine⟨ocn _,?_⟩
 refine Jz 1 ?_
 refine Da [2] (AR t.A t.q t.l (d.stack.getLastD 0) om hq hg.asc) ?_
 rintro _ _ ⟨Bp,qp,rfl,htq,rfl⟩
 refine⟨ocn _,?_⟩
 refine Fw.nc ?_
 refine Fw.up rfl rfl rfl (Bl (i:=4) (us:=Tb.cells (⟨Bp,qp,(Im t.l (d.stack.getLastD 0))⟩:Tb)) rfl rfl rfl r54 (Nf.len _) rfl rfl (Ee Nf (by decide) om)) (ocn _) ?_
 refine Jz 2 ?_
 refine Jas [ros Be Bp (Im t.l (d.stack.getLastD 0)),box b [vs d.Av d.vars d.qv,vs d.At (d.tabs.set ka (⟨Bp,qp,Im t.l (d.stack.getLastD 0)⟩:Tb)) d.qt,vs d.dk.A d.dk.l d.dk.q,vs d.Ae d.effs d.qe,iv d.cost,vs s.Ac s.code s.qc,vs s.Aa s.args s.qa,iv s.now,vs s.Ag s.flags s.qg,iv s.dsk,vs s.Af s.fail s.qf,vs d.As (d.stack.dropLast) d.qs,iv d.next,iv d.sends,iv d.disks, .bool d.fault] 123,rows aLz 2 1 d.As d.qs (d.stack.dropLast),rows aLz 2 1 d.Av d.qv d.vars,rows Tb.cells 54 1 d.At d.qt (d.tabs.set ka (⟨Bp,qp,(Im t.l (d.stack.getLastD 0))⟩:Tb)),De Be (d.tabs.map Tb.ar),ros Be d.dk.A d.dk.l,rows Ef.cells 86 8 d.Ae d.qe d.effs,De aLz (d.effs.map Ef.ar)] (by(try unfold vs);rw[aEj]<;>rfl) (La ((d.tabs.set ka (⟨Bp,qp,Im t.l (d.stack.getLastD 0)⟩:Tb)).map Tb.ar) 5 rfl (Ww (mog (i:=0) rfl)) (Lj (Df (Cj (Cj (Cj (Ic (Cj (Cj (Ej (Co (.inr rfl) results117 ?_)))))))))))
 exact⟨rfl,(⟨d.Av,d.qv,d.vars,d.At,d.qt,(d.tabs.set ka (⟨Bp,qp,Im t.l (d.stack.getLastD 0)⟩:Tb)),⟨d.dk.A,d.dk.q,d.dk.l⟩,d.Ae,d.qe,d.effs,d.cost,d.As,d.qs,(d.stack.dropLast),d.next,d.sends,d.disks,d.fault⟩:Dm),rfl,by unfold Gb;simp only[hgd];rw[aEa (show¬((x.op:Nat):Int)=6 by omega),aEa (show¬((x.op:Nat):Int)=7 by omega),aEa (show¬((x.op:Nat):Int)=8 by omega),aEa (show¬((x.op:Nat):Int)=25 by omega)];first|rfl|(simp[Dm.val,hka,map_set,-List.map_set];done)|(simp[Dm.val,hka,map_set,-List.map_set];rfl),⟨iZ hc.1 htq,hc.2⟩⟩
 refine Jz 5 ?_
 refine Da [1,7] (Ni b s d (by first|omega|(simp only[lap,aEf,lc1,ln0];omega))) ?_
 rintro _ _ ⟨rfl,rfl⟩
 refine⟨ocn _,?_⟩
 refine Da [2] (AR t.A t.q t.l (d.stack.getLastD 0) om hq hg.asc) ?_
 rintro _ _ ⟨Bp,qp,rfl,htq,rfl⟩
 refine⟨ocn _,?_⟩
 refine Fw.nc ?_
 refine Fw.up rfl rfl rfl (Bl (i:=4) (us:=Tb.cells (⟨Bp,qp,(Im t.l (d.stack.getLastD 0))⟩:Tb)) rfl rfl rfl r54 (Nf.len _) rfl rfl (Ee Nf (by decide) om)) (ocn _) ?_
 refine Jz 2 ?_
 refine Jas [ros Be Bp (Im t.l (d.stack.getLastD 0)),box b [vs d.Av d.vars d.qv,vs d.At (d.tabs.set ka (⟨Bp,qp,Im t.l (d.stack.getLastD 0)⟩:Tb)) d.qt,vs d.dk.A d.dk.l d.dk.q,vs d.Ae d.effs d.qe,iv d.cost,vs s.Ac s.code s.qc,vs s.Aa s.args s.qa,iv s.now,vs s.Ag s.flags s.qg,iv s.dsk,vs s.Af s.fail s.qf,vs d.As (d.stack.dropLast) d.qs,iv d.next,iv d.sends,iv d.disks, .bool d.fault] 123,rows aLz 2 1 d.As d.qs (d.stack.dropLast),rows aLz 2 1 d.Av d.qv d.vars,rows Tb.cells 54 1 d.At d.qt (d.tabs.set ka (⟨Bp,qp,(Im t.l (d.stack.getLastD 0))⟩:Tb)),De Be (d.tabs.map Tb.ar),ros Be d.dk.A d.dk.l,rows Ef.cells 86 8 d.Ae d.qe d.effs,De aLz (d.effs.map Ef.ar)] (by(try unfold vs);rw[aEj]<;>rfl) (La ((d.tabs.set ka (⟨Bp,qp,Im t.l (d.stack.getLastD 0)⟩:Tb)).map Tb.ar) 5 rfl (Ww (mog (i:=0) rfl)) (Lj (Df (Cj (Cj (Cj (Ic (Cj (Cj (Ej (Co (.inr rfl) results117 ?_)))))))))))
 exact⟨rfl,(⟨d.Av,d.qv,d.vars,d.At,d.qt,(d.tabs.set ka (⟨Bp,qp,Im t.l (d.stack.getLastD 0)⟩:Tb)),⟨d.dk.A,d.dk.q,d.dk.l⟩,d.Ae,d.qe,d.effs,d.cost,d.As,d.qs,(d.stack.dropLast),d.next,d.sends,d.disks,d.fault⟩:Dm),rfl,by unfold Gb;simp only[hgd];rw[aEa (show¬((x.op:Nat):Int)=6 by omega),aEa (show¬((x.op:Nat):Int)=7 by omega),aEa (show¬((x.op:Nat):Int)=8 by omega),aEa (show¬((x.op:Nat):Int)=25 by omega)];first|rfl|(simp[Dm.val,hka,map_set,-List.map_set];done)|(simp[Dm.val,hka,map_set,-List.map_set];rfl),⟨iZ hc.1 htq,hc.2⟩⟩
 exfalso;omega
end Go.Proofs.YtlihklladkagpaaGreatDoor

/- Own text. -/
import Derived.Test.YtlihklladkagpaaGreatDoorXe
set_option linter.unusedVariables false
set_option linter.unusedSimpArgs false
set_option maxHeartbeats 2000000
set_option maxRecDepth 100000
namespace Go.Proofs.YtlihklladkagpaaGreatDoor
open Go.Proofs.Tryz
open Go.RowKit Go.Flow Go.Mem Go.Sep
def capsD(d:Dm):Prop:=(∀x∈d.tabs,x.l.length≤x.q)∧d.dk.l.length≤d.dk.q
structure Okv(s:Sm)(d:Dv):Prop where
 tabs:∀t∈d.tabs,Good t
 disk:Good d.disk
 asc:AscI s.fail
 fail:s.fail.length≤1000000
 effs:d.effs.length≤2000000
 sends:0≤d.sends∧d.sends≤8
 disks:0≤d.disks∧d.disks≤2000000
 dsk:0≤s.dsk∧s.dsk≤1000000000
def efK(l:List Ef):List Chunk:=l.map fun e=>rows encI 2 1 e.A e.q e.args
theorem JefPush{C:Cx}{ρ:Slots}{Γ:List Chunk}{K:Act→World→Prop}{O:List Ef}{e:Ef}(k:To C ρ (all (efK (O++[e]))::Γ) K):To C ρ (rows encI 2 1 e.A e.q e.args::all (efK O)::Γ) K:=
 To.allPush (by have h:efK (O++[e])=efK O++[rows encI 2 1 e.A e.q e.args]:=List.map_append;rw[h]at k;exact k)
theorem send_fn(b:Nat)(s:Sm)(d:Dm)(x:Ins)(hop:((x.op:Nat):Int)=30∨((x.op:Nat):Int)=31)(hf:Fit s x d.val)(ho:Okv s d.val)(hc:capsD d):
    Dz 115 [pv b, .agg (Ins.cells x).toArray] [box b [vs d.Av d.vars d.qv,vs d.At d.tabs d.qt,vs d.dk.A d.dk.l d.dk.q,vs d.Ae d.effs d.qe, .int .i64 d.cost,vs s.Ac s.code s.qc,vs s.Aa s.args s.qa, .int .i64 s.now,vs s.Ag s.flags s.qg, .int .i64 s.dsk,vs s.Af s.fail s.qf,vs d.As d.stack d.qs, .int .i64 d.next, .int .i64 d.sends, .int .i64 d.disks, .bool d.fault] 123,rows encI 2 1 d.Av d.qv d.vars,rows Tb.cells 54 1 d.At d.qt d.tabs,rosS encEn (d.tabs.map Tb.ar),ros encEn d.dk.A d.dk.l,rows Ef.cells 86 8 d.Ae d.qe d.effs,all (efK d.effs),rows encI 2 1 d.As d.qs d.stack] (fun v Γ'=>v= .tuple #[]∧∃d':Dm,Γ'=[box b [vs d'.Av d'.vars d'.qv,vs d'.At d'.tabs d'.qt,vs d'.dk.A d'.dk.l d'.dk.q,vs d'.Ae d'.effs d'.qe, .int .i64 d'.cost,vs s.Ac s.code s.qc,vs s.Aa s.args s.qa, .int .i64 s.now,vs s.Ag s.flags s.qg, .int .i64 s.dsk,vs s.Af s.fail s.qf,vs d'.As d'.stack d'.qs, .int .i64 d'.next, .int .i64 d'.sends, .int .i64 d'.disks, .bool d'.fault] 123,rows encI 2 1 d'.Av d'.qv d'.vars,rows Tb.cells 54 1 d'.At d'.qt d'.tabs,rosS encEn (d'.tabs.map Tb.ar),ros encEn d'.dk.A d'.dk.l,rows Ef.cells 86 8 d'.Ae d'.qe d'.effs,all (efK d'.effs),rows encI 2 1 d'.As d'.qs d'.stack]∧d'.val=sendV x d.val∧capsD d'):=by
 have hht:d.stack.length≤4001:=hf.height
 have hpp:popsN x≤((d.stack.length:Nat):Int):=hf.pops
 have hpo:=pops_of x
 have hsn:0≤x.n∧x.n≤4:=hf.sends hop
 have hss:0≤d.sends∧d.sends≤8:=ho.sends
 have hel:d.effs.length≤2000000:=by have:(d.effs.map Ef.val).length≤2000000:=ho.effs;simpa using this
 obtain⟨kn,hkn⟩:∃kn:Nat,x.n=((kn:Nat):Int):=⟨x.n.toNat,by omega⟩
 have hknl:kn≤d.stack.length:=om
 refine Does.en func115 ntmps115 fun w0=>?_
 refine Js (To.g (Jbo fun b3=>?_))
 refine Jz 12 ?_
 refine Jcp rfl ?_ ?_<;>intro c10
 refine Jz 10 ?_
 refine Jdel0 (Jend0 (.inl rfl) results115 ?_)
 exact⟨rfl,(⟨d.Av,d.qv,d.vars,d.At,d.qt,d.tabs,⟨d.dk.A,d.dk.q,d.dk.l⟩,d.Ae,d.qe,d.effs,d.cost,d.As,d.qs,d.stack,d.next,d.sends,d.disks,true⟩:Dm),rfl,by unfold sendV;rw[if_pos (show d.val.sends=8 from c10)];rfl,hc⟩
 refine Jz 8 ?_
 refine Jr (Rd.add64 rfl rfl rfl om) ?_
 refine Jz 6 ?_
 refine Jfw [] [0,1,2,5,103,4,106,7,8] (ocn _) ?_
 refine Jz 7 ?_
 refine Fw.f rfl (Rd.as (v':=nv (d.stack.length-kn)) (congrArg (Value.int .i64) om) (Rd.sub64 rfl rfl rfl om)) ?_
 refine Jz 4 ?_
 refine Jknow (p:=d.stack.length≤d.qs) (fun w hw=>rows_capD 8 rfl hw) (fun hqs=>?_)
 have hdl:(d.stack.drop (d.stack.length-kn)).length≤1000000:=by rw[List.length_drop];omega
 refine Jflow [] [⟨0,[],0⟩,⟨2,[],0⟩,⟨4,[],0⟩,⟨5,[],0⟩,⟨6,[],0⟩,⟨8,[],0⟩,⟨7,[],1⟩,⟨9,[],0⟩,⟨10,[],4⟩,⟨1,[],1⟩,⟨3,[],1⟩,⟨11,[10],0⟩,⟨12,[],2⟩,⟨13,[10,12],5⟩] mixed.h (by kernel_rfl) (ocn _) (Jz 7 ?_)
 refine Fw.f rfl (Rd.as (v':= .slice (slAt d.As d.qs (d.stack.length-kn) 1) (d.stack.drop (d.stack.length-kn)).length (d.qs-(d.stack.length-kn))) (congrArg (fun z=>Value.slice (slAt d.As d.qs (d.stack.length-kn) 1) z (d.qs-(d.stack.length-kn))) (List.length_drop).symm) (Rd.sliceLo (lo:=d.stack.length-kn) rfl s28 rfl rfl om)) ?_
 refine Fw.callM rfl rfl rfl rfl rfl .fc (clone64_fn (slAt d.As d.qs (d.stack.length-kn) 1) (d.qs-(d.stack.length-kn)) (d.stack.drop (d.stack.length-kn)) hdl) rfl (ocs (oks_dropRow encI_ok 8 rfl hqs om) (ocn _)) ?_
 rintro _ _ ⟨Bc,qc,rfl,rfl⟩
 refine⟨rfl,?_⟩
 refine Jz 2 ?_
 refine Fw.f rfl (.bd [.int .u8 1, .int .i64 x.a, .int .i64 x.b, .int .i64 0, .int .i64 0, .int .i64 0, .bool false,vs Bc (d.stack.drop (d.stack.length-kn)) qc]) ?_
 refine Fw.mk rfl rfl rfl rfl rfl (Mk.alloc rfl z86) ?_
 rintro _ _ ⟨b5,rfl,rfl⟩
 refine Fw.up rfl rfl rfl (Up.storeS (i:=0) rfl rfl rfl r86 rfl rfl rfl (bta rfl)) (ocn _) ?_
 refine Jz 10 ?_
 refine Jr (Rd.as (v':= .slice d.As (d.stack.take (d.stack.length-kn)).length d.qs) (congrArg (fun z=>Value.slice d.As z d.qs) (by rw[List.length_take];omega)) (Rd.sliceHi (hi:=d.stack.length-kn) rfl s28 rfl rfl om)) ?_
 refine Jz 5 ?_
 refine Js (Jz 1 ?_)
 refine Jup10 (Jshrink encI_ok (d.stack.length-kn) om ?_)
 have htk:(d.stack.take (d.stack.length-kn)).length=d.stack.length-kn:=by rw[List.length_take];omega
 refine Jz 2 ?_
 refine Jlo 3 c114 ?_
 refine Jz 3 ?_
 refine Jcp rfl ?_ ?_<;>intro c52
 have h31:(x.op:Int)=31:=by first|exact c52|omega
 have hkl:kn<d.stack.length:=om
 refine Jz 2 ?_
 refine Jcf [4,0] (pop_fn b s (⟨d.Av,d.qv,d.vars,d.At,d.qt,d.tabs,⟨d.dk.A,d.dk.q,d.dk.l⟩,d.Ae,d.qe,d.effs,d.cost,d.As,d.qs,(d.stack.take (d.stack.length-kn)),d.next,d.sends+1,d.disks,d.fault⟩:Dm) (by first|omega|(simp only[lap,List.length_dropLast,lc1,ln0];omega))) ?_
 rintro _ _ ⟨rfl,rfl⟩
 refine Jz 6 ?_
 refine Jfw [] [0,1,2,3,4,105,106,207,8508,9,10,11,512] (ocn _) ?_
 refine Jz 7 ?_
 refine Fw.sn [.int .u8 2, .int .i64 x.a, .int .i64 x.b, .int .i64 ((d.stack.take (d.stack.length-kn)).getLastD 0), .int .i64 0, .int .i64 0, .bool false,vs Bc (d.stack.drop (d.stack.length-kn)) qc] fun b64=>?_
 refine Fw.ge rfl rfl rfl rfl (Ge.append1 encEf (i:=10) (j:=0) (el:=(⟨2,x.a,x.b,(d.stack.take (d.stack.length-kn)).getLastD 0,0,0,false,Bc,qc,(d.stack.drop (d.stack.length-kn))⟩:Ef)) rfl s68 rfl rfl rfl rfl rfl om om) ?_
 rintro _ _ ⟨A65,q65,rfl,rfl⟩
 refine⟨ocn _,?_⟩
 refine Jz 3 ?_
 refine Fw.up rfl rfl rfl (Up.store (i:=1) rfl rfl rfl c68 rfl rfl (bt1 rfl)) (ocn _) ?_
 refine Fw.fin ?_
 refine Jup11 (Jup5 (JefPush (O:=d.effs) (e:=(⟨2,x.a,x.b,(d.stack.take (d.stack.length-kn)).getLastD 0,0,0,false,Bc,qc,(d.stack.drop (d.stack.length-kn))⟩:Ef)) (Jdel5 (Jdel4 (Jdel1 (Jup7 (Jup7 (Jup7 (Jup7 (Jup7 (Jup6 (Jend0 (.inr rfl) results115 ?_))))))))))))
 exact⟨rfl,(⟨d.Av,d.qv,d.vars,d.At,d.qt,d.tabs,⟨d.dk.A,d.dk.q,d.dk.l⟩,A65,q65,(d.effs++[(⟨2,x.a,x.b,(d.stack.take (d.stack.length-kn)).getLastD 0,0,0,false,Bc,qc,(d.stack.drop (d.stack.length-kn))⟩:Ef)]),d.cost,d.As,d.qs,((d.stack.take (d.stack.length-kn)).dropLast),d.next,d.sends+1,d.disks,d.fault⟩:Dm),rfl,by unfold sendV;rw[if_neg (show¬d.val.sends=8 from c10)];simp only[];rw[if_pos (show((x.op:Nat):Int)=31 from c52)];simp[Dm.val,hkn,Ef.val],hc⟩
 refine Jsp (Jt (Jfw [] [0,1,2,3,4,105,106,207,8508,9,10,11,512] (ocn _) ?_))
 refine Jz 7 ?_
 refine Fw.sn [.int .u8 1, .int .i64 x.a, .int .i64 x.b, .int .i64 0, .int .i64 0, .int .i64 0, .bool false,vs Bc (d.stack.drop (d.stack.length-kn)) qc] fun b64_2=>?_
 refine Fw.ge rfl rfl rfl rfl (Ge.append1 encEf (i:=10) (j:=0) (el:=(⟨1,x.a,x.b,0,0,0,false,Bc,qc,(d.stack.drop (d.stack.length-kn))⟩:Ef)) rfl s68 rfl rfl rfl rfl rfl om om) ?_
 rintro _ _ ⟨A65_2,q65_2,rfl,rfl⟩
 refine⟨ocn _,?_⟩
 refine Jz 3 ?_
 refine Fw.up rfl rfl rfl (Up.store (i:=5) rfl rfl rfl c68 rfl rfl (bt1 rfl)) (ocn _) ?_
 refine Fw.fin ?_
 refine Jup11 (Jup4 (JefPush (O:=d.effs) (e:=(⟨1,x.a,x.b,0,0,0,false,Bc,qc,(d.stack.drop (d.stack.length-kn))⟩:Ef)) (Jdel4 (Jdel3 (Jdel1 (Jup7 (Jup7 (Jup7 (Jup7 (Jup7 (Jup7 (Jend0 (.inr rfl) results115 ?_))))))))))))
 exact⟨rfl,(⟨d.Av,d.qv,d.vars,d.At,d.qt,d.tabs,⟨d.dk.A,d.dk.q,d.dk.l⟩,A65_2,q65_2,(d.effs++[(⟨1,x.a,x.b,0,0,0,false,Bc,qc,(d.stack.drop (d.stack.length-kn))⟩:Ef)]),d.cost,d.As,d.qs,(d.stack.take (d.stack.length-kn)),d.next,d.sends+1,d.disks,d.fault⟩:Dm),rfl,by unfold sendV;rw[if_neg (show¬d.val.sends=8 from c10)];simp only[];rw[if_neg (show¬((x.op:Nat):Int)=31 from c52)];simp[Dm.val,hkn,Ef.val],hc⟩
theorem disk_fn(b:Nat)(s:Sm)(d:Dm)(x:Ins)(hop:((x.op:Nat):Int)=32∨((x.op:Nat):Int)=33)(hf:Fit s x d.val)(ho:Okv s d.val)(hc:capsD d):
    Dz 116 [pv b, .agg (Ins.cells x).toArray] [box b [vs d.Av d.vars d.qv,vs d.At d.tabs d.qt,vs d.dk.A d.dk.l d.dk.q,vs d.Ae d.effs d.qe, .int .i64 d.cost,vs s.Ac s.code s.qc,vs s.Aa s.args s.qa, .int .i64 s.now,vs s.Ag s.flags s.qg, .int .i64 s.dsk,vs s.Af s.fail s.qf,vs d.As d.stack d.qs, .int .i64 d.next, .int .i64 d.sends, .int .i64 d.disks, .bool d.fault] 123,rows encI 2 1 d.Av d.qv d.vars,rows Tb.cells 54 1 d.At d.qt d.tabs,rosS encEn (d.tabs.map Tb.ar),ros encEn d.dk.A d.dk.l,rows Ef.cells 86 8 d.Ae d.qe d.effs,all (efK d.effs),rows encI 2 1 d.As d.qs d.stack,ros encI s.Af s.fail] (fun v Γ'=>v= .tuple #[]∧∃d':Dm,Γ'=[box b [vs d'.Av d'.vars d'.qv,vs d'.At d'.tabs d'.qt,vs d'.dk.A d'.dk.l d'.dk.q,vs d'.Ae d'.effs d'.qe, .int .i64 d'.cost,vs s.Ac s.code s.qc,vs s.Aa s.args s.qa, .int .i64 s.now,vs s.Ag s.flags s.qg, .int .i64 s.dsk,vs s.Af s.fail s.qf,vs d'.As d'.stack d'.qs, .int .i64 d'.next, .int .i64 d'.sends, .int .i64 d'.disks, .bool d'.fault] 123,rows encI 2 1 d'.Av d'.qv d'.vars,rows Tb.cells 54 1 d'.At d'.qt d'.tabs,rosS encEn (d'.tabs.map Tb.ar),ros encEn d'.dk.A d'.dk.l,rows Ef.cells 86 8 d'.Ae d'.qe d'.effs,all (efK d'.effs),rows encI 2 1 d'.As d'.qs d'.stack]∧d'.val=diskV s x d.val∧capsD d'):=by
 have hht:d.stack.length≤4001:=hf.height
 have hpp:popsN x≤((d.stack.length:Nat):Int):=hf.pops
 have hpo:=pops_of x
 have hvar:((x.op:Nat):Int)=2∨((x.op:Nat):Int)=24∨((x.op:Nat):Int)=33→0≤x.a∧x.a<((d.vars.length:Nat):Int):=hf.var
 have hdd:0≤d.disks∧d.disks≤2000000:=ho.disks
 have hds:0≤s.dsk∧s.dsk≤1000000000:=ho.dsk
 have hgd:Good d.dk.l:=ho.disk
 have hgl:=hgd.len
 have hel:d.effs.length≤2000000:=by have:(d.effs.map Ef.val).length≤2000000:=ho.effs;simpa using this
 refine Does.en func116 ntmps116 fun w0=>?_
 refine Js (To.g (Jboxed rfl rfl rfl rfl rfl rfl (fun b3=>?_)))
 refine To.n (Jt (Js (Jfw [] [0,1,2,3,5,6,7,8,10,11,12,104,109,113,14,315,16,17,18,19,20] (ocn _) ?_)))
 refine Fw.mo ?_
 refine Fw.nc ?_
 refine Fw.fi fl123_2 ?_
 refine Fw.fi fl64_4 ?_
 refine Fw.mo ?_
 refine Fw.nc ?_
 refine Fw.fi fl123_2 ?_
 refine Fw.fi fl64_3 ?_
 refine Fw.mo ?_
 refine Fw.nc ?_
 refine Fw.fi fl123_6 ?_
 refine Fw.lo 1 c62 ?_
 refine Fw.lo 1 c3 ?_
 refine Fw.lo 1 c3 ?_
 refine Fw.f rfl (Rd.add64 rfl rfl rfl om) ?_
 refine Fw.qf (bs_fn s.Af s.qf s.fail (s.dsk+d.disks) ho.fail ho.asc) (ocs (oca 9 rfl) (ocn _)) ?_
 refine Fw.mo ?_
 refine Fw.f rfl (Rd.extract rfl rfl rfl) ?_
 refine Fw.f rfl (Rd.extract rfl rfl rfl) ?_
 refine Fw.f rfl (Rd.assign rfl rfl) ?_
 refine Fw.f rfl (Rd.assign rfl rfl) ?_
 refine Fw.fin ?_
 refine Jt (Js (To.g (Jm ?_)))
 refine Jnc ?_
 refine To.f fl123_6 ?_
 refine Jlo 1 c3 ?_
 refine Jr (Rd.add64 rfl rfl rfl om) ?_
 refine Jnc ?_
 refine To.f fl123_6 ?_
 refine To.u (Up.store (i:=1) rfl rfl rfl c3 rfl rfl (bt1 rfl)) ?_
 refine To.n (Jt (Js (To.g (Jm ?_))))
 refine Jr (.bd [.int .u8 4, .int .i64 0, .int .i64 0, .int .i64 0, .int .i64 0, .int .i64 0, .bool (decide (s.dsk+d.disks∈s.fail)), .slice none 0 0]) ?_
 refine To.alloc rfl rfl rfl rfl z86 (fun b6=>?_)
 refine To.u (Up.storeS (i:=0) rfl rfl rfl r86 rfl rfl rfl (bta rfl)) ?_
 refine To.n (Jt (Js (Js (To.g (To.f fl116_0 ?_)))))
 refine Jlo 1 c114 ?_
 refine To.eq ?_
 refine To.n (Jt (Jcp rfl (fun k37=>?_) (fun k37=>?_)))
 refine To.g (Jm ?_)
 refine Jcf [2,8] (pop_fn b s (⟨d.Av,d.qv,d.vars,d.At,d.qt,d.tabs,⟨d.dk.A,d.dk.q,d.dk.l⟩,d.Ae,d.qe,d.effs,d.cost,d.As,d.qs,d.stack,d.next,d.sends,d.disks+1,d.fault⟩:Dm) (by first|omega|(simp only[lap,List.length_dropLast,lc1,ln0];omega))) ?_
 rintro _ _ ⟨rfl,rfl⟩
 refine To.f fl86_0 ?_
 refine To.u (Up.store (i:=2) rfl rfl rfl c84 rfl rfl (bt1 rfl)) ?_
 refine To.f fl86_5 ?_
 refine To.u (Up.store (i:=2) rfl rfl rfl c2 rfl rfl (bt1 rfl)) ?_
 refine To.n (Jt (Js (To.g (Jm ?_))))
 refine Jcf [0,0] (pop_fn b s (⟨d.Av,d.qv,d.vars,d.At,d.qt,d.tabs,⟨d.dk.A,d.dk.q,d.dk.l⟩,d.Ae,d.qe,d.effs,d.cost,d.As,d.qs,(d.stack.dropLast),d.next,d.sends,d.disks+1,d.fault⟩:Dm) (by first|omega|(simp only[lap,List.length_dropLast,lc1,ln0];omega))) ?_
 rintro _ _ ⟨rfl,rfl⟩
 refine To.f fl86_4 ?_
 refine To.u (Up.store (i:=2) rfl rfl rfl c2 rfl rfl (bt1 rfl)) ?_
 refine To.n (Jt (Js (To.b (Js (To.g (Jm ?_))))))
 refine Ja (To.n (Jt ?_))
 refine Jcond rfl ?_ ?_<;>intro k69
 refine To.g (Jm ?_)
 refine To.f fl116_2 ?_
 refine Jlo 3 c3 ?_
 refine Jnc ?_
 refine To.f fl123_4 ?_
 refine To.u (Up.store (i:=0) rfl rfl rfl c3 rfl rfl (bt1 rfl)) ?_
 refine To.n (Jbn (Jt (JnilRow (encI) 2 1 (Jfw [] [0,1,2,3,4,105,106,207,8508,9,10,11,512] (ocn _) ?_))))
 refine Fw.mo ?_
 refine Fw.mo ?_
 refine Fw.nc ?_
 refine Fw.fi fl123_0 ?_
 refine Fw.fi fl70_1 ?_
 refine Fw.lo 1 c68 ?_
 refine Fw.r rfl (Rd.lS (i:=3) rfl rfl r86 rfl box_whole rfl) ?_
 refine Fw.sn [.int .u8 3, .int .i64 0, .int .i64 0, .int .i64 0, .int .i64 ((d.stack.dropLast).getLastD 0), .int .i64 (d.stack.getLastD 0), .bool (decide (s.dsk+d.disks∈s.fail)), .slice none 0 0] fun b97=>?_
 refine Fw.ge rfl rfl rfl rfl (Ge.append1 encEf (i:=10) (j:=0) (el:=(⟨3,0,0,0,(d.stack.dropLast).getLastD 0,d.stack.getLastD 0,(decide (s.dsk+d.disks∈s.fail)),none,0,([]:List Int)⟩:Ef)) rfl s68 rfl rfl rfl rfl rfl om om) ?_
 rintro _ _ ⟨A98,q98,rfl,rfl⟩
 refine⟨ocn _,?_⟩
 refine Fw.nc ?_
 refine Fw.fi fl123_0 ?_
 refine Fw.fi fl70_1 ?_
 refine Fw.up rfl rfl rfl (Up.store (i:=2) rfl rfl rfl c68 rfl rfl (bt1 rfl)) (ocn _) ?_
 refine Fw.fin ?_
 refine Jup11 (Jup2 (JefPush (O:=d.effs) (e:=(⟨3,0,0,0,(d.stack.dropLast).getLastD 0,d.stack.getLastD 0,(decide (s.dsk+d.disks∈s.fail)),none,0,([]:List Int)⟩:Ef)) (Jdel11 (Jdel5 (Jdel4 (Jdel1 (Jup7 (Jup7 (Jup7 (Jup7 (Jup7 (Jup6 (Jend0 (.inr rfl) results116 ?_)))))))))))))
 have hb:decide (s.dsk+d.val.disks∈s.fail)=true:=k69
 have hm:s.dsk+d.disks∈s.fail:=of_decide_eq_true k69
 exact⟨rfl,(⟨d.Av,d.qv,d.vars,d.At,d.qt,d.tabs,⟨d.dk.A,d.dk.q,d.dk.l⟩,A98,q98,(d.effs++[(⟨3,0,0,0,(d.stack.dropLast).getLastD 0,d.stack.getLastD 0,(decide (s.dsk+d.disks∈s.fail)),none,0,([]:List Int)⟩:Ef)]),d.cost,d.As,d.qs,((d.stack.dropLast).dropLast),x.b,d.sends,d.disks+1,d.fault⟩:Dm),rfl,by unfold diskV;simp only[];rw[if_pos (show((x.op:Nat):Int)=32 from k37),hb];simp[Dm.val,Ef.val,hm],hc⟩
 refine Js (To.g (To.f fl116_0 ?_))
 refine Jlo 3 c114 ?_
 refine To.eq ?_
 refine Ja (To.n (Jt ?_))
 refine JcondT (congrArg (fun b=>some (Value.bool b)) (decide_eq_true k37)) (Jfw [] [0,1,2,3,4,5,7,106,108,509] (ocn _) ?_)
 refine Fw.mo ?_
 refine Fw.nc ?_
 refine Fw.fi fl123_0 ?_
 refine Fw.fi fl70_0 ?_
 refine Fw.fi fl56_2 ?_
 refine Fw.fi fl86_4 ?_
 refine Fw.fi fl86_5 ?_
 refine Fw.lo 2 c2 ?_
 refine Fw.lo 2 c2 ?_
 refine Fw.cf [0,6] (putB_fn b s (⟨d.Av,d.qv,d.vars,d.At,d.qt,d.tabs,⟨d.dk.A,d.dk.q,d.dk.l⟩,d.Ae,d.qe,d.effs,d.cost,d.As,d.qs,((d.stack.dropLast).dropLast),d.next,d.sends,d.disks+1,d.fault⟩:Dm) ((d.stack.dropLast).getLastD 0) (d.stack.getLastD 0) hgd hc.2) ?_
 rintro _ _ ⟨rfl,t,rfl,ht,htq⟩
 refine⟨ocn _,?_⟩
 refine Fw.fin ?_
 refine Jbn (Jt (JnilRow (encI) 2 1 (Jfw [] [0,1,2,3,4,105,106,207,8508,9,10,11,512] (ocn _) ?_)))
 refine Fw.mo ?_
 refine Fw.mo ?_
 refine Fw.nc ?_
 refine Fw.fi fl123_0 ?_
 refine Fw.fi fl70_1 ?_
 refine Fw.lo 1 c68 ?_
 refine Fw.r rfl (Rd.lS (i:=4) rfl rfl r86 rfl box_whole rfl) ?_
 refine Fw.sn [.int .u8 3, .int .i64 0, .int .i64 0, .int .i64 0, .int .i64 ((d.stack.dropLast).getLastD 0), .int .i64 (d.stack.getLastD 0), .bool (decide (s.dsk+d.disks∈s.fail)), .slice none 0 0] fun b97_2=>?_
 refine Fw.ge rfl rfl rfl rfl (Ge.append1 encEf (i:=10) (j:=0) (el:=(⟨3,0,0,0,(d.stack.dropLast).getLastD 0,d.stack.getLastD 0,(decide (s.dsk+d.disks∈s.fail)),none,0,([]:List Int)⟩:Ef)) rfl s68 rfl rfl rfl rfl rfl om om) ?_
 rintro _ _ ⟨A98_2,q98_2,rfl,rfl⟩
 refine⟨ocn _,?_⟩
 refine Fw.nc ?_
 refine Fw.fi fl123_0 ?_
 refine Fw.fi fl70_1 ?_
 refine Fw.up rfl rfl rfl (Up.store (i:=2) rfl rfl rfl c68 rfl rfl (bt1 rfl)) (ocn _) ?_
 refine Fw.fin ?_
 refine Jsub [(0,pv b),(1, .agg (Ins.cells x).toArray),(3,pv b3),(5, .bool (decide (s.dsk+d.disks∈s.fail))),(6,pv b6),(37, .bool (decide (((x.op:Nat):Int)=32))),(69, .bool (decide (s.dsk+d.disks∈s.fail))),(76, .bool (decide (((x.op:Nat):Int)=32)))] sb (Jup11 (Jup2 (JefPush (O:=d.effs) (e:=(⟨3,0,0,0,(d.stack.dropLast).getLastD 0,d.stack.getLastD 0,(decide (s.dsk+d.disks∈s.fail)),none,0,([]:List Int)⟩:Ef)) (Jdel11 (Jdel6 (Jdel5 (Jdel1 (Jup7 (Jup3 (Jup7 (Jup7 (Jup7 (Jup6 (Jend0 (.inr rfl) results116 ?_))))))))))))))
 have hb:decide (s.dsk+d.val.disks∈s.fail)=false:=k69
 have hm:¬s.dsk+d.disks∈s.fail:=of_decide_eq_false k69
 exact⟨rfl,(⟨d.Av,d.qv,d.vars,d.At,d.qt,d.tabs,⟨t.A,t.q,t.l⟩,A98_2,q98_2,(d.effs++[(⟨3,0,0,0,(d.stack.dropLast).getLastD 0,d.stack.getLastD 0,(decide (s.dsk+d.disks∈s.fail)),none,0,([]:List Int)⟩:Ef)]),d.cost,d.As,d.qs,((d.stack.dropLast).dropLast),d.next,d.sends,d.disks+1,d.fault⟩:Dm),rfl,by unfold diskV;simp only[];rw[if_pos (show((x.op:Nat):Int)=32 from k37),hb];simp[Dm.val,Ef.val,hm,ht],⟨hc.1,htq⟩⟩
 refine Jsp (Jt (Js (To.g (Jm ?_))))
 refine Jcf [2,8] (pop_fn b s (⟨d.Av,d.qv,d.vars,d.At,d.qt,d.tabs,⟨d.dk.A,d.dk.q,d.dk.l⟩,d.Ae,d.qe,d.effs,d.cost,d.As,d.qs,d.stack,d.next,d.sends,d.disks+1,d.fault⟩:Dm) (by first|omega|(simp only[lap,List.length_dropLast,lc1,ln0];omega))) ?_
 rintro _ _ ⟨rfl,rfl⟩
 refine To.f fl86_4 ?_
 refine To.u (Up.store (i:=2) rfl rfl rfl c2 rfl rfl (bt1 rfl)) ?_
 refine To.n (Jt (Js (To.b (Js (To.g (Jm ?_))))))
 refine Ja (To.n (Jt ?_))
 refine Jcond rfl ?_ ?_<;>intro k69
 refine To.g (Jm ?_)
 refine To.f fl116_2 ?_
 refine Jlo 3 c3 ?_
 refine Jnc ?_
 refine To.f fl123_4 ?_
 refine To.u (Up.store (i:=0) rfl rfl rfl c3 rfl rfl (bt1 rfl)) ?_
 refine To.n (Jbn (Jt (JnilRow (encI) 2 1 (Jfw [] [0,1,2,3,4,105,106,207,8508,9,10,11,512] (ocn _) ?_))))
 refine Fw.mo ?_
 refine Fw.mo ?_
 refine Fw.nc ?_
 refine Fw.fi fl123_0 ?_
 refine Fw.fi fl70_1 ?_
 refine Fw.lo 1 c68 ?_
 refine Fw.r rfl (Rd.lS (i:=3) rfl rfl r86 rfl box_whole rfl) ?_
 refine Fw.sn [.int .u8 4, .int .i64 0, .int .i64 0, .int .i64 0, .int .i64 (d.stack.getLastD 0), .int .i64 0, .bool (decide (s.dsk+d.disks∈s.fail)), .slice none 0 0] fun b97_3=>?_
 refine Fw.ge rfl rfl rfl rfl (Ge.append1 encEf (i:=10) (j:=0) (el:=(⟨4,0,0,0,d.stack.getLastD 0,0,(decide (s.dsk+d.disks∈s.fail)),none,0,([]:List Int)⟩:Ef)) rfl s68 rfl rfl rfl rfl rfl om om) ?_
 rintro _ _ ⟨A98_3,q98_3,rfl,rfl⟩
 refine⟨ocn _,?_⟩
 refine Fw.nc ?_
 refine Fw.fi fl123_0 ?_
 refine Fw.fi fl70_1 ?_
 refine Fw.up rfl rfl rfl (Up.store (i:=2) rfl rfl rfl c68 rfl rfl (bt1 rfl)) (ocn _) ?_
 refine Fw.fin ?_
 refine Jup11 (Jup2 (JefPush (O:=d.effs) (e:=(⟨4,0,0,0,d.stack.getLastD 0,0,(decide (s.dsk+d.disks∈s.fail)),none,0,([]:List Int)⟩:Ef)) (Jdel11 (Jdel5 (Jdel4 (Jdel1 (Jup7 (Jup7 (Jup7 (Jup7 (Jup7 (Jup6 (Jend0 (.inr rfl) results116 ?_)))))))))))))
 have hb:decide (s.dsk+d.val.disks∈s.fail)=true:=k69
 have hm:s.dsk+d.disks∈s.fail:=of_decide_eq_true k69
 exact⟨rfl,(⟨d.Av,d.qv,d.vars,d.At,d.qt,d.tabs,⟨d.dk.A,d.dk.q,d.dk.l⟩,A98_3,q98_3,(d.effs++[(⟨4,0,0,0,d.stack.getLastD 0,0,(decide (s.dsk+d.disks∈s.fail)),none,0,([]:List Int)⟩:Ef)]),d.cost,d.As,d.qs,(d.stack.dropLast),x.b,d.sends,d.disks+1,d.fault⟩:Dm),rfl,by unfold diskV;simp only[];rw[if_neg (show¬((x.op:Nat):Int)=32 from k37),hb];simp[Dm.val,Ef.val,hm],hc⟩
 refine Js (To.g (To.f fl116_0 ?_))
 refine Jlo 3 c114 ?_
 refine To.eq ?_
 refine Ja (To.n (Jt ?_))
 refine JcondF (congrArg (fun b=>some (Value.bool b)) (decide_eq_false k37)) (Js (Jfw [] [0,1,2,3,4,6,105,107,308,9,10,11,12,513] (ocn _) ?_))
 refine Fw.mo ?_
 refine Fw.nc ?_
 refine Fw.fi fl123_0 ?_
 refine Fw.fi fl70_0 ?_
 refine Fw.fi fl56_2 ?_
 refine Fw.fi fl86_4 ?_
 refine Fw.r rfl (Rd.lS (i:=0) (us:=[vs d.dk.A d.dk.l d.dk.q]) rfl rfl r54 rfl (box_gives (n:=1) rfl) rfl) ?_
 refine Fw.lo 2 c2 ?_
 refine Fw.qf (tget_fn d.dk.A d.dk.q d.dk.l (d.stack.getLastD 0) om hgd.asc) (ocs (oca 7 rfl) (ocn _)) ?_
 refine Fw.mo ?_
 refine Fw.f rfl (Rd.extract rfl rfl rfl) ?_
 refine Fw.f rfl (Rd.extract rfl rfl rfl) ?_
 refine Fw.fi fl86_5 ?_
 refine Fw.up rfl rfl rfl (Up.store (i:=2) rfl rfl rfl c2 rfl rfl (bt1 rfl)) (ocn _) ?_
 refine Fw.fin ?_
 refine Jt ?_
 obtain⟨ka,hka⟩:∃ka:Nat,x.a=((ka:Nat):Int):=⟨x.a.toNat,by have:=hvar om;omega⟩
 have hkl:ka<d.vars.length:=by have:=hvar om;omega
 obtain⟨y,hel2⟩:=exg d.vars ka om
 refine Jfw [] [0,1,2,3,4,6,8,105,107,109,110,511] (ocn _) ?_
 refine Fw.mo ?_
 refine Fw.nc ?_
 refine Fw.fi fl123_0 ?_
 refine Fw.fi fl70_0 ?_
 refine Fw.fi fl56_0 ?_
 refine Fw.fi fl116_1 ?_
 refine Fw.fi fl86_5 ?_
 refine Fw.lo 0 c28 ?_
 refine Fw.lo 3 c3 ?_
 refine Fw.lo 2 c2 ?_
 refine Fw.r rfl (Rd.indexRowsI (i:=4) (j:=ka) rfl rfl rfl hka s28 rfl hel2) ?_
 refine Fw.up rfl rfl rfl (Up.store (i:=4) rfl rfl rfl c2 rfl rfl (rows_takes encI_ok (y:=((getT d.dk.l (d.stack.getLastD 0)).getD 0)) (by decide) om)) (ocn _) ?_
 refine Fw.fin ?_
 refine Jsub [(0,pv b),(1, .agg (Ins.cells x).toArray),(3,pv b3),(5, .bool (decide (s.dsk+d.disks∈s.fail))),(6,pv b6),(37, .bool (decide (((x.op:Nat):Int)=32))),(69, .bool (decide (s.dsk+d.disks∈s.fail))),(76, .bool (decide (((x.op:Nat):Int)=32)))] sb (Jbn (Jt (JnilRow (encI) 2 1 (Jfw [] [0,1,2,3,4,105,106,207,8508,9,10,11,512] (ocn _) ?_))))
 refine Fw.mo ?_
 refine Fw.mo ?_
 refine Fw.nc ?_
 refine Fw.fi fl123_0 ?_
 refine Fw.fi fl70_1 ?_
 refine Fw.lo 1 c68 ?_
 refine Fw.r rfl (Rd.lS (i:=3) rfl rfl r86 rfl box_whole rfl) ?_
 refine Fw.sn [.int .u8 4, .int .i64 0, .int .i64 0, .int .i64 0, .int .i64 (d.stack.getLastD 0), .int .i64 ((getT d.dk.l (d.stack.getLastD 0)).getD 0), .bool (decide (s.dsk+d.disks∈s.fail)), .slice none 0 0] fun b97_4=>?_
 refine Fw.ge rfl rfl rfl rfl (Ge.append1 encEf (i:=10) (j:=0) (el:=(⟨4,0,0,0,d.stack.getLastD 0,(getT d.dk.l (d.stack.getLastD 0)).getD 0,(decide (s.dsk+d.disks∈s.fail)),none,0,([]:List Int)⟩:Ef)) rfl s68 rfl rfl rfl rfl rfl om om) ?_
 rintro _ _ ⟨A98_4,q98_4,rfl,rfl⟩
 refine⟨ocn _,?_⟩
 refine Fw.nc ?_
 refine Fw.fi fl123_0 ?_
 refine Fw.fi fl70_1 ?_
 refine Fw.up rfl rfl rfl (Up.store (i:=2) rfl rfl rfl c68 rfl rfl (bt1 rfl)) (ocn _) ?_
 refine Fw.fin ?_
 refine Jas [row 86 8 (some ⟨b97_4,0,none⟩) 1 1 [.int .u8 4, .int .i64 0, .int .i64 0, .int .i64 0, .int .i64 (d.stack.getLastD 0), .int .i64 ((getT d.dk.l (d.stack.getLastD 0)).getD 0), .bool (decide (s.dsk+d.disks∈s.fail)), .slice none 0 0],rows encI 2 1 none 0 ([]:List Int),box b [vs d.Av (d.vars.set ka ((getT d.dk.l (d.stack.getLastD 0)).getD 0)) d.qv,vs d.At d.tabs d.qt,vs d.dk.A d.dk.l d.dk.q,vs A98_4 (d.effs++[(⟨4,0,0,0,d.stack.getLastD 0,(getT d.dk.l (d.stack.getLastD 0)).getD 0,(decide (s.dsk+d.disks∈s.fail)),none,0,([]:List Int)⟩:Ef)]) q98_4, .int .i64 d.cost,vs s.Ac s.code s.qc,vs s.Aa s.args s.qa, .int .i64 s.now,vs s.Ag s.flags s.qg, .int .i64 s.dsk,vs s.Af s.fail s.qf,vs d.As (d.stack.dropLast) d.qs, .int .i64 d.next, .int .i64 d.sends, .int .i64 (d.disks+1), .bool d.fault] 123,rows encI 2 1 d.As d.qs (d.stack.dropLast),box b6 [.int .u8 4, .int .i64 0, .int .i64 0, .int .i64 0, .int .i64 (d.stack.getLastD 0), .int .i64 ((getT d.dk.l (d.stack.getLastD 0)).getD 0), .bool (decide (s.dsk+d.disks∈s.fail)), .slice none 0 0] 86,box b3 (Ins.cells x) 116,rows encI 2 1 d.Av d.qv (d.vars.set ka ((getT d.dk.l (d.stack.getLastD 0)).getD 0)),rows Tb.cells 54 1 d.At d.qt d.tabs,rosS encEn (d.tabs.map Tb.ar),ros encEn d.dk.A d.dk.l,rows Ef.cells 86 8 A98_4 q98_4 (d.effs++[(⟨4,0,0,0,d.stack.getLastD 0,(getT d.dk.l (d.stack.getLastD 0)).getD 0,(decide (s.dsk+d.disks∈s.fail)),none,0,([]:List Int)⟩:Ef)]),all (efK d.effs),ros encI s.Af s.fail] (by(try unfold vs);rw[List.length_set]<;>rfl) (Jup11 (Jup2 (JefPush (O:=d.effs) (e:=(⟨4,0,0,0,d.stack.getLastD 0,(getT d.dk.l (d.stack.getLastD 0)).getD 0,(decide (s.dsk+d.disks∈s.fail)),none,0,([]:List Int)⟩:Ef)) (Jdel11 (Jdel5 (Jdel4 (Jdel1 (Jup7 (Jup7 (Jup7 (Jup7 (Jup7 (Jup6 (Jend0 (.inr rfl) results116 ?_))))))))))))))
 have hb:decide (s.dsk+d.val.disks∈s.fail)=false:=k69
 have hm:¬s.dsk+d.disks∈s.fail:=of_decide_eq_false k69
 exact⟨rfl,(⟨d.Av,d.qv,(d.vars.set ka ((getT d.dk.l (d.stack.getLastD 0)).getD 0)),d.At,d.qt,d.tabs,⟨d.dk.A,d.dk.q,d.dk.l⟩,A98_4,q98_4,(d.effs++[(⟨4,0,0,0,d.stack.getLastD 0,(getT d.dk.l (d.stack.getLastD 0)).getD 0,(decide (s.dsk+d.disks∈s.fail)),none,0,([]:List Int)⟩:Ef)]),d.cost,d.As,d.qs,(d.stack.dropLast),d.next,d.sends,d.disks+1,d.fault⟩:Dm),rfl,by unfold diskV;simp only[];rw[if_neg (show¬((x.op:Nat):Int)=32 from k37),hb];simp[Dm.val,Ef.val,hm,hka],hc⟩
theorem fam_set{T:List Tb}{e:Tb}{j:Nat}{Γ:List Chunk}(h:ros encEn e.A e.l∈Γ):∀p∈(T.set j e).map Tb.ar,p∈T.map Tb.ar∨ros encEn p.1 p.2∈Γ:=fun p hp=>by
 obtain⟨y,hy,rfl⟩:=List.mem_map.1 hp
 rcases List.mem_or_eq_of_mem_set hy with h1|h1
 ·exact .inl (List.mem_map.2 ⟨y,h1,rfl⟩)
 ·rw[h1];exact .inr h
theorem caps_set{T:List Tb}{e:Tb}{j:Nat}(h:∀x∈T,x.l.length≤x.q)(h2:e.l.length≤e.q):∀x∈T.set j e,x.l.length≤x.q:=fun x hx=>by
 rcases List.mem_or_eq_of_mem_set hx with h3|h3
 ·exact h x h3
 ·rw[h3];exact h2
theorem map_set{T:List Tb}{e:Tb}{j:Nat}:(T.set j e).map Tb.l=(T.map Tb.l).set j e.l:=List.map_set
theorem table_fn(b:Nat)(s:Sm)(d:Dm)(x:Ins)(ka:Nat)(t:Tb)(ht:d.tabs[ka]?=some t)(hka:x.a=((ka:Nat):Int))(hop:((x.op:Nat):Int)=6∨((x.op:Nat):Int)=7∨((x.op:Nat):Int)=8∨((x.op:Nat):Int)=25∨((x.op:Nat):Int)=26)(hf:Fit s x d.val)(ho:Okv s d.val)(hc:capsD d):
    Dz 117 [pv b, .int .u8 ((x.op:Nat):Int), .pointer (some ⟨blk d.At,ofs d.At+ka*1,none⟩)] [box b [vs d.Av d.vars d.qv,vs d.At d.tabs d.qt,vs d.dk.A d.dk.l d.dk.q,vs d.Ae d.effs d.qe, .int .i64 d.cost,vs s.Ac s.code s.qc,vs s.Aa s.args s.qa, .int .i64 s.now,vs s.Ag s.flags s.qg, .int .i64 s.dsk,vs s.Af s.fail s.qf,vs d.As d.stack d.qs, .int .i64 d.next, .int .i64 d.sends, .int .i64 d.disks, .bool d.fault] 123,rows encI 2 1 d.Av d.qv d.vars,rows Tb.cells 54 1 d.At d.qt d.tabs,rosS encEn (d.tabs.map Tb.ar),ros encEn d.dk.A d.dk.l,rows Ef.cells 86 8 d.Ae d.qe d.effs,all (efK d.effs),rows encI 2 1 d.As d.qs d.stack] (fun v Γ'=>v= .tuple #[]∧∃d':Dm,Γ'=[box b [vs d'.Av d'.vars d'.qv,vs d'.At d'.tabs d'.qt,vs d'.dk.A d'.dk.l d'.dk.q,vs d'.Ae d'.effs d'.qe, .int .i64 d'.cost,vs s.Ac s.code s.qc,vs s.Aa s.args s.qa, .int .i64 s.now,vs s.Ag s.flags s.qg, .int .i64 s.dsk,vs s.Af s.fail s.qf,vs d'.As d'.stack d'.qs, .int .i64 d'.next, .int .i64 d'.sends, .int .i64 d'.disks, .bool d'.fault] 123,rows encI 2 1 d'.Av d'.qv d'.vars,rows Tb.cells 54 1 d'.At d'.qt d'.tabs,rosS encEn (d'.tabs.map Tb.ar),ros encEn d'.dk.A d'.dk.l,rows Ef.cells 86 8 d'.Ae d'.qe d'.effs,all (efK d'.effs),rows encI 2 1 d'.As d'.qs d'.stack]∧d'.val=tableV x d.val∧capsD d'):=by
 have hht:d.stack.length≤4001:=hf.height
 have hpp:popsN x≤((d.stack.length:Nat):Int):=hf.pops
 have hpo:=pops_of x
 have htm:=mog ht
 have hg:Good t.l:=ho.tabs t.l (List.mem_map.2 ⟨t,htm,rfl⟩)
 have hgl:=hg.len
 have hq:t.l.length≤t.q:=hc.1 t htm
 have hgd:d.val.tabs.getD x.a.toNat []=t.l:=by rw[hka,Int.toNat_natCast,List.getD_eq_getElem?_getD];show((d.tabs.map Tb.l)[ka]?).getD []=t.l;rw[List.getElem?_map,ht];rfl
 have hkl:ka<d.tabs.length:=(List.getElem?_eq_some_iff.1 ht).1
 refine Does.en func117 ntmps117 fun w0=>?_
 refine Jz 12 ?_
 refine Jcp rfl ?_ ?_<;>intro k12
 refine Js (Jfw [rows Tb.cells 54 1 d.At d.qt d.tabs] [0,1,2,3,504,305,6,7,8,9,10] (ocs (oca 2 rfl) (ocn _)) ?_)
 refine Jz 4 ?_
 refine Fw.cf [0,6] (pop_fn b s d (by first|omega|(simp only[lap,List.length_dropLast,lc1,ln0];omega))) ?_
 rintro _ _ ⟨rfl,rfl⟩
 refine⟨ocs (oca 3 rfl) (ocn _),?_⟩
 refine Fw.qf (tget_fn t.A t.q t.l (d.stack.getLastD 0) om hg.asc) (ocs (oks_S 4 rfl (mem_at ht Tb.ar)) (ocn _)) ?_
 refine Jz 10 ?_
 refine Jcf [0,0] (push_fn b s (⟨d.Av,d.qv,d.vars,d.At,d.qt,d.tabs,⟨d.dk.A,d.dk.q,d.dk.l⟩,d.Ae,d.qe,d.effs,d.cost,d.As,d.qs,(d.stack.dropLast),d.next,d.sends,d.disks,d.fault⟩:Dm) ((getT t.l (d.stack.getLastD 0)).getD 0) (by first|omega|(simp only[lap,List.length_dropLast,lc1,ln0];omega))) ?_
 rintro _ _ ⟨rfl,As,qs,rfl⟩
 refine To.n (Jbn (Jup7 (Jup7 (Jup7 (Jup7 (Jup7 (Jup7 (Jup6 (Jend0 (.inr rfl) results117 ?_)))))))))
 exact⟨rfl,(⟨d.Av,d.qv,d.vars,d.At,d.qt,d.tabs,⟨d.dk.A,d.dk.q,d.dk.l⟩,d.Ae,d.qe,d.effs,d.cost,As,qs,((d.stack.dropLast)++[(getT t.l (d.stack.getLastD 0)).getD 0]),d.next,d.sends,d.disks,d.fault⟩:Dm),rfl,by unfold tableV;simp only[hgd];rw[if_pos (show((x.op:Nat):Int)=6 by omega)];first|rfl|(simp[Dm.val,hka,map_set,-List.map_set];done)|(simp[Dm.val,hka,map_set,-List.map_set];rfl),hc⟩
 refine Jz 6 ?_
 refine Jcp rfl ?_ ?_<;>intro k26
 refine Js (Jfw [rows Tb.cells 54 1 d.At d.qt d.tabs] [0,1,2,3,504,305,6,7,8,9,10] (ocs (oca 2 rfl) (ocn _)) ?_)
 refine Jz 4 ?_
 refine Fw.cf [0,6] (pop_fn b s d (by first|omega|(simp only[lap,List.length_dropLast,lc1,ln0];omega))) ?_
 rintro _ _ ⟨rfl,rfl⟩
 refine⟨ocs (oca 3 rfl) (ocn _),?_⟩
 refine Fw.qf (tget_fn t.A t.q t.l (d.stack.getLastD 0) om hg.asc) (ocs (oks_S 4 rfl (mem_at ht Tb.ar)) (ocn _)) ?_
 refine Jz 10 ?_
 refine Jvf (xtru_fn ((getT t.l (d.stack.getLastD 0)).isSome)) rfl (ocn _) ?_
 refine Jcf [0,0] (push_fn b s (⟨d.Av,d.qv,d.vars,d.At,d.qt,d.tabs,⟨d.dk.A,d.dk.q,d.dk.l⟩,d.Ae,d.qe,d.effs,d.cost,d.As,d.qs,(d.stack.dropLast),d.next,d.sends,d.disks,d.fault⟩:Dm) (tru ((getT t.l (d.stack.getLastD 0)).isSome)) (by first|omega|(simp only[lap,List.length_dropLast,lc1,ln0];omega))) ?_
 rintro _ _ ⟨rfl,As_2,qs_2,rfl⟩
 refine To.n (Jbn (Jup7 (Jup7 (Jup7 (Jup7 (Jup7 (Jup7 (Jup6 (Jend0 (.inr rfl) results117 ?_)))))))))
 exact⟨rfl,(⟨d.Av,d.qv,d.vars,d.At,d.qt,d.tabs,⟨d.dk.A,d.dk.q,d.dk.l⟩,d.Ae,d.qe,d.effs,d.cost,As_2,qs_2,((d.stack.dropLast)++[tru ((getT t.l (d.stack.getLastD 0)).isSome)]),d.next,d.sends,d.disks,d.fault⟩:Dm),rfl,by unfold tableV;simp only[hgd];rw[if_neg (show¬((x.op:Nat):Int)=6 by omega),if_pos (show((x.op:Nat):Int)=7 by omega)];first|rfl|(simp[Dm.val,hka,map_set,-List.map_set];done)|(simp[Dm.val,hka,map_set,-List.map_set];rfl),hc⟩
 refine Jz 6 ?_
 refine Jcp rfl ?_ ?_<;>intro k41
 refine Jz 5 ?_
 refine Jvf (tlen_fn t.A t.l.length t.q) rfl (ocn _) ?_
 refine Jcf [0,6] (push_fn b s d ((t.l.length:Nat):Int) (by first|omega|(simp only[lap,List.length_dropLast,lc1,ln0];omega))) ?_
 rintro _ _ ⟨rfl,As_3,qs_3,rfl⟩
 refine To.n (Jbn (Jup7 (Jup7 (Jup7 (Jup7 (Jup7 (Jup7 (Jup6 (Jend0 (.inr rfl) results117 ?_)))))))))
 exact⟨rfl,(⟨d.Av,d.qv,d.vars,d.At,d.qt,d.tabs,⟨d.dk.A,d.dk.q,d.dk.l⟩,d.Ae,d.qe,d.effs,d.cost,As_3,qs_3,(d.stack++[((t.l.length:Nat):Int)]),d.next,d.sends,d.disks,d.fault⟩:Dm),rfl,by unfold tableV;simp only[hgd];rw[if_neg (show¬((x.op:Nat):Int)=6 by omega),if_neg (show¬((x.op:Nat):Int)=7 by omega),if_pos (show((x.op:Nat):Int)=8 by omega)];first|rfl|(simp[Dm.val,hka,map_set,-List.map_set];done)|(simp[Dm.val,hka,map_set,-List.map_set];rfl),hc⟩
 refine Jz 6 ?_
 refine Jcp rfl ?_ ?_<;>intro k49
 refine Jz 3 ?_
 refine Jcf [0,6] (pop_fn b s d (by first|omega|(simp only[lap,List.length_dropLast,lc1,ln0];omega))) ?_
 rintro _ _ ⟨rfl,rfl⟩
 refine Jz 3 ?_
 refine JoneS 4 rfl (mem_at ht Tb.ar) (Jz 3 ?_)
 refine Jcf [1,1] (pop_fn b s (⟨d.Av,d.qv,d.vars,d.At,d.qt,d.tabs,⟨d.dk.A,d.dk.q,d.dk.l⟩,d.Ae,d.qe,d.effs,d.cost,d.As,d.qs,(d.stack.dropLast),d.next,d.sends,d.disks,d.fault⟩:Dm) (by first|omega|(simp only[lap,List.length_dropLast,lc1,ln0];omega))) ?_
 rintro _ _ ⟨rfl,rfl⟩
 refine Jm ?_
 refine Jcf [4,2] (putT_fn d.At d.qt d.tabs ka t ht ((d.stack.dropLast).getLastD 0) (d.stack.getLastD 0) hg hq) ?_
 rintro _ _ ⟨rfl,t',rfl,ht',htq⟩
 refine To.n (Jbn (Jas [rows Tb.cells 54 1 d.At d.qt (d.tabs.set ka t'),ros encEn t'.A t'.l,box b [vs d.Av d.vars d.qv,vs d.At (d.tabs.set ka t') d.qt,vs d.dk.A d.dk.l d.dk.q,vs d.Ae d.effs d.qe, .int .i64 d.cost,vs s.Ac s.code s.qc,vs s.Aa s.args s.qa, .int .i64 s.now,vs s.Ag s.flags s.qg, .int .i64 s.dsk,vs s.Af s.fail s.qf,vs d.As ((d.stack.dropLast).dropLast) d.qs, .int .i64 d.next, .int .i64 d.sends, .int .i64 d.disks, .bool d.fault] 123,rows encI 2 1 d.As d.qs ((d.stack.dropLast).dropLast),rows encI 2 1 d.Av d.qv d.vars,rosS encEn (d.tabs.map Tb.ar),ros encEn d.dk.A d.dk.l,rows Ef.cells 86 8 d.Ae d.qe d.effs,all (efK d.effs)] (by(try unfold vs);rw[List.length_set]<;>rfl) (JfamS ((d.tabs.set ka t').map Tb.ar) 5 rfl (fam_set (mog (i:=1) rfl)) (Jdel6 (Jdel2 (Jup7 (Jup7 (Jup7 (Jup3 (Jup4 (Jup7 (Jup6 (Jend0 (.inr rfl) results117 ?_)))))))))))))
 exact⟨rfl,(⟨d.Av,d.qv,d.vars,d.At,d.qt,(d.tabs.set ka t'),⟨d.dk.A,d.dk.q,d.dk.l⟩,d.Ae,d.qe,d.effs,d.cost,d.As,d.qs,((d.stack.dropLast).dropLast),d.next,d.sends,d.disks,d.fault⟩:Dm),rfl,by unfold tableV;simp only[hgd];rw[if_neg (show¬((x.op:Nat):Int)=6 by omega),if_neg (show¬((x.op:Nat):Int)=7 by omega),if_neg (show¬((x.op:Nat):Int)=8 by omega),if_pos (show((x.op:Nat):Int)=25 by omega)];first|rfl|(simp[Dm.val,hka,map_set,ht',-List.map_set];done)|(simp[Dm.val,hka,map_set,ht',-List.map_set];rfl),⟨caps_set hc.1 htq,hc.2⟩⟩
 refine Jz 6 ?_
 refine Jcp rfl ?_ ?_<;>intro k58
 refine JoneS 3 rfl (mem_at ht Tb.ar) (To.flow2c [] 3 5 [⟨0,[],0⟩,⟨1,[],0⟩,⟨2,[],0⟩,⟨4,[],0⟩,⟨5,[],5⟩,⟨3,[],1⟩,⟨6,[],5⟩,⟨7,[],0⟩,⟨8,[],5⟩] [⟨0,[],0⟩,⟨1,[],0⟩,⟨2,[],0⟩,⟨4,[],0⟩,⟨3,[],1⟩,⟨5,[],5⟩,⟨6,[],5⟩,⟨7,[],0⟩,⟨8,[],5⟩] mixed.h rfl (by kernel_rfl) (by kernel_rfl) (by kernel_rfl) (ocn _) ?_ ?_)
 refine Jz 4 ?_
 refine Fw.cf [1,7] (pop_fn b s d (by first|omega|(simp only[lap,List.length_dropLast,lc1,ln0];omega))) ?_
 rintro _ _ ⟨rfl,rfl⟩
 refine⟨ocn _,?_⟩
 refine Jz 1 ?_
 refine Fw.cf [2] (tdel_fn t.A t.q t.l (d.stack.getLastD 0) om hq hg.asc) ?_
 rintro _ _ ⟨Bp,qp,rfl,htq,rfl⟩
 refine⟨ocn _,?_⟩
 refine Fw.nc ?_
 refine Fw.up rfl rfl rfl (Up.storeS (i:=4) (us:=Tb.cells (⟨Bp,qp,(delT t.l (d.stack.getLastD 0))⟩:Tb)) rfl rfl rfl r54 (encTb.len _) rfl rfl (rows_takes encTb (by decide) om)) (ocn _) ?_
 refine Jz 2 ?_
 refine Jas [ros encEn Bp (delT t.l (d.stack.getLastD 0)),box b [vs d.Av d.vars d.qv,vs d.At (d.tabs.set ka (⟨Bp,qp,delT t.l (d.stack.getLastD 0)⟩:Tb)) d.qt,vs d.dk.A d.dk.l d.dk.q,vs d.Ae d.effs d.qe, .int .i64 d.cost,vs s.Ac s.code s.qc,vs s.Aa s.args s.qa, .int .i64 s.now,vs s.Ag s.flags s.qg, .int .i64 s.dsk,vs s.Af s.fail s.qf,vs d.As (d.stack.dropLast) d.qs, .int .i64 d.next, .int .i64 d.sends, .int .i64 d.disks, .bool d.fault] 123,rows encI 2 1 d.As d.qs (d.stack.dropLast),rows encI 2 1 d.Av d.qv d.vars,rows Tb.cells 54 1 d.At d.qt (d.tabs.set ka (⟨Bp,qp,(delT t.l (d.stack.getLastD 0))⟩:Tb)),rosS encEn (d.tabs.map Tb.ar),ros encEn d.dk.A d.dk.l,rows Ef.cells 86 8 d.Ae d.qe d.effs,all (efK d.effs)] (by(try unfold vs);rw[List.length_set]<;>rfl) (JfamS ((d.tabs.set ka (⟨Bp,qp,delT t.l (d.stack.getLastD 0)⟩:Tb)).map Tb.ar) 5 rfl (fam_set (mog (i:=0) rfl)) (Jdel6 (Jdel1 (Jup7 (Jup7 (Jup7 (Jup3 (Jup7 (Jup7 (Jup6 (Jend0 (.inr rfl) results117 ?_)))))))))))
 exact⟨rfl,(⟨d.Av,d.qv,d.vars,d.At,d.qt,(d.tabs.set ka (⟨Bp,qp,delT t.l (d.stack.getLastD 0)⟩:Tb)),⟨d.dk.A,d.dk.q,d.dk.l⟩,d.Ae,d.qe,d.effs,d.cost,d.As,d.qs,(d.stack.dropLast),d.next,d.sends,d.disks,d.fault⟩:Dm),rfl,by unfold tableV;simp only[hgd];rw[if_neg (show¬((x.op:Nat):Int)=6 by omega),if_neg (show¬((x.op:Nat):Int)=7 by omega),if_neg (show¬((x.op:Nat):Int)=8 by omega),if_neg (show¬((x.op:Nat):Int)=25 by omega)];first|rfl|(simp[Dm.val,hka,map_set,-List.map_set];done)|(simp[Dm.val,hka,map_set,-List.map_set];rfl),⟨caps_set hc.1 htq,hc.2⟩⟩
 refine Jz 5 ?_
 refine Fw.cf [1,7] (pop_fn b s d (by first|omega|(simp only[lap,List.length_dropLast,lc1,ln0];omega))) ?_
 rintro _ _ ⟨rfl,rfl⟩
 refine⟨ocn _,?_⟩
 refine Fw.cf [2] (tdel_fn t.A t.q t.l (d.stack.getLastD 0) om hq hg.asc) ?_
 rintro _ _ ⟨Bp,qp,rfl,htq,rfl⟩
 refine⟨ocn _,?_⟩
 refine Fw.nc ?_
 refine Fw.up rfl rfl rfl (Up.storeS (i:=4) (us:=Tb.cells (⟨Bp,qp,(delT t.l (d.stack.getLastD 0))⟩:Tb)) rfl rfl rfl r54 (encTb.len _) rfl rfl (rows_takes encTb (by decide) om)) (ocn _) ?_
 refine Jz 2 ?_
 refine Jas [ros encEn Bp (delT t.l (d.stack.getLastD 0)),box b [vs d.Av d.vars d.qv,vs d.At (d.tabs.set ka (⟨Bp,qp,delT t.l (d.stack.getLastD 0)⟩:Tb)) d.qt,vs d.dk.A d.dk.l d.dk.q,vs d.Ae d.effs d.qe, .int .i64 d.cost,vs s.Ac s.code s.qc,vs s.Aa s.args s.qa, .int .i64 s.now,vs s.Ag s.flags s.qg, .int .i64 s.dsk,vs s.Af s.fail s.qf,vs d.As (d.stack.dropLast) d.qs, .int .i64 d.next, .int .i64 d.sends, .int .i64 d.disks, .bool d.fault] 123,rows encI 2 1 d.As d.qs (d.stack.dropLast),rows encI 2 1 d.Av d.qv d.vars,rows Tb.cells 54 1 d.At d.qt (d.tabs.set ka (⟨Bp,qp,(delT t.l (d.stack.getLastD 0))⟩:Tb)),rosS encEn (d.tabs.map Tb.ar),ros encEn d.dk.A d.dk.l,rows Ef.cells 86 8 d.Ae d.qe d.effs,all (efK d.effs)] (by(try unfold vs);rw[List.length_set]<;>rfl) (JfamS ((d.tabs.set ka (⟨Bp,qp,delT t.l (d.stack.getLastD 0)⟩:Tb)).map Tb.ar) 5 rfl (fam_set (mog (i:=0) rfl)) (Jdel6 (Jdel1 (Jup7 (Jup7 (Jup7 (Jup3 (Jup7 (Jup7 (Jup6 (Jend0 (.inr rfl) results117 ?_)))))))))))
 exact⟨rfl,(⟨d.Av,d.qv,d.vars,d.At,d.qt,(d.tabs.set ka (⟨Bp,qp,delT t.l (d.stack.getLastD 0)⟩:Tb)),⟨d.dk.A,d.dk.q,d.dk.l⟩,d.Ae,d.qe,d.effs,d.cost,d.As,d.qs,(d.stack.dropLast),d.next,d.sends,d.disks,d.fault⟩:Dm),rfl,by unfold tableV;simp only[hgd];rw[if_neg (show¬((x.op:Nat):Int)=6 by omega),if_neg (show¬((x.op:Nat):Int)=7 by omega),if_neg (show¬((x.op:Nat):Int)=8 by omega),if_neg (show¬((x.op:Nat):Int)=25 by omega)];first|rfl|(simp[Dm.val,hka,map_set,-List.map_set];done)|(simp[Dm.val,hka,map_set,-List.map_set];rfl),⟨caps_set hc.1 htq,hc.2⟩⟩
 exfalso;omega
end Go.Proofs.YtlihklladkagpaaGreatDoor

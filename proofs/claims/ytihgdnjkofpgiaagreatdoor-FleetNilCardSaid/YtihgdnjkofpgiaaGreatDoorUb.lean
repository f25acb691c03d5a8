/- Merged out of Dg3, Dg4, Dg5 by merge.py. Own text. -/
import Derived.Test.YtihgdnjkofpgiaaGreatDoorUa
import Derived.Test.YtihgdnjkofpgiaaGreatDoorUc
import Derived.Test.YtihgdnjkofpgiaaGreatDoorQb
set_option linter.unusedVariables false
set_option linter.unusedSimpArgs false
set_option maxHeartbeats 2000000
set_option maxRecDepth 100000
namespace Go.Proofs.YtihgdnjkofpgiaaGreatDoor
open Go.RowKit Go.Flow Go.Mem Go.Sep Go.In
set_option maxHeartbeats 8000000 in
set_option maxRecDepth 100000 in
theorem mix_fn(hb:Nat)(cs:List Value)(hcs:ShK kdH 73 cs):
    Does Tryz.prog 166 [pv hb] [box hb cs 297,cstC] (fun v Γ'=>∃cs',v= .tuple #[]∧Γ'=[box hb cs' 297]∧ShK kdH 73 cs'):=by
 refine Does.enter Tryz.func166 rfl Tryz.ntmps166 rfl (fun w0=>?_)
 refine To.s (To.g ?_)
 refine To.al fun b2=>?_
 refine To.z 9 ?_
 refine To.sub [(0,pv hb),(2,pv b2),(22,nv 0)] ⟨rfl,rfl,rfl,trivial⟩ ?_
 refine To.up1 ?_
 refine To.loop (fun mz ρ Γ=>∃(W:List Value) (i:Nat),ρ=[(0,pv hb),(2,pv b2),(22,nv i)]∧Γ=[box hb cs 297,box b2 W 340,cstC]∧mz=16-i∧(i≤16)∧(ShK (fun _=> .u32) 64 W)) (16-0) ⟨(List.replicate 64 (.int .u32 0)),0,rfl,rfl,rfl,(Nat.zero_le _),(ShK.rep .u32 64)⟩ ?_
 rintro mz _ _ ⟨W,i,rfl,rfl,rfl,hi,hW⟩
 refine To.z 6 ?_
 refine To.cp rfl (fun k23=>?_) (fun k23=>?_)
 refine To.z 16 ?_
 refine To.r (Rd.as (v':=nv (4*i)) (congrArg (Value.int .i64) (by omega)) (Rd.mul64 (m:=4) (n:=((i:Nat):Int)) rfl rfl rfl (by omega))) ?_
 refine To.m ?_
 refine To.r (Rd.as (v':=nv (4*i)) (congrArg (Value.int .i64) (by omega)) (Rd.mul64 (m:=4) (n:=((i:Nat):Int)) rfl rfl rfl (by omega))) ?_
 refine To.r (Rd.addN (a:=(4*i)) (b:=4) rfl rfl rfl (by omega)) ?_
 refine To.r (Rd.sliceArr (lo:=4*i) (hi:=4*i+4) rfl (ArrTy.of (size:=1) Tryz.underlying295 (by kernel_rfl)) rfl rfl rfl (by omega) (by omega) (by omega)) ?_
 refine To.z 3 ?_
 refine To.flow [box hb cs 297] [⟨0,[],0⟩,⟨1,[],0⟩,⟨2,[],0⟩,⟨3,[],0⟩,⟨4,[],0⟩,⟨5,[],0⟩,⟨6,[],0⟩,⟨7,[],0⟩,⟨8,[],0⟩,⟨9,[],0⟩,⟨10,[],0⟩,⟨11,[],0⟩,⟨12,[],0⟩,⟨13,[],0⟩,⟨14,[],0⟩,⟨15,[],0⟩,⟨16,[],0⟩,⟨17,[],0⟩,⟨18,[],0⟩,⟨19,[],0⟩,⟨20,[],0⟩,⟨21,[],0⟩,⟨22,[],0⟩,⟨23,[],0⟩,⟨24,[],5⟩] mixed (by kernel_rfl) (ocs (oca 0 rfl) (ocn _)) ?_
 refine To.z 2 ?_
 refine Fw.f rfl (Rd.indexSl (j:=0) rfl rfl rfl s22 (by omega)) ?_
 refine Fw.freeE rfl rfl rfl rfl (RdE.cell (i:=0) rfl rfl c5 rfl hcs (by omega) (kdH_b (by omega) (by omega))) (fun u37=>?_)
 refine Fw.freeE rfl rfl rfl rfl (RdE.conv rfl rfl Tryz.underlying5 Tryz.underlying282 (.inr (.inl rfl))) (fun u38=>?_)
 refine Fw.freeE rfl rfl rfl rfl (RdE.shl rfl rfl rfl (.inr (.inl rfl)) (by omega)) (fun u39=>?_)
 refine Fw.mo ?_
 refine Fw.f rfl (Rd.indexSl (j:=1) rfl rfl rfl s22 (by omega)) ?_
 refine Fw.freeE rfl rfl rfl rfl (RdE.cell (i:=0) rfl rfl c5 rfl hcs (by omega) (kdH_b (by omega) (by omega))) (fun u42=>?_)
 refine Fw.freeE rfl rfl rfl rfl (RdE.conv rfl rfl Tryz.underlying5 Tryz.underlying282 (.inr (.inl rfl))) (fun u43=>?_)
 refine Fw.freeE rfl rfl rfl rfl (RdE.shl rfl rfl rfl (.inr (.inl rfl)) (by omega)) (fun u44=>?_)
 refine Fw.freeE rfl rfl rfl rfl (RdE.or rfl rfl rfl (.inr (.inl rfl))) (fun u45=>?_)
 refine Fw.mo ?_
 refine Fw.f rfl (Rd.indexSl (j:=2) rfl rfl rfl s22 (by omega)) ?_
 refine Fw.freeE rfl rfl rfl rfl (RdE.cell (i:=0) rfl rfl c5 rfl hcs (by omega) (kdH_b (by omega) (by omega))) (fun u48=>?_)
 refine Fw.freeE rfl rfl rfl rfl (RdE.conv rfl rfl Tryz.underlying5 Tryz.underlying282 (.inr (.inl rfl))) (fun u49=>?_)
 refine Fw.freeE rfl rfl rfl rfl (RdE.shl rfl rfl rfl (.inr (.inl rfl)) (by omega)) (fun u50=>?_)
 refine Fw.freeE rfl rfl rfl rfl (RdE.or rfl rfl rfl (.inr (.inl rfl))) (fun u51=>?_)
 refine Fw.mo ?_
 refine Fw.f rfl (Rd.indexSl (j:=3) rfl rfl rfl s22 (by omega)) ?_
 refine Fw.freeE rfl rfl rfl rfl (RdE.cell (i:=0) rfl rfl c5 rfl hcs (by omega) (kdH_b (by omega) (by omega))) (fun u54=>?_)
 refine Fw.freeE rfl rfl rfl rfl (RdE.conv rfl rfl Tryz.underlying5 Tryz.underlying282 (.inr (.inl rfl))) (fun u55=>?_)
 refine Fw.freeE rfl rfl rfl rfl (RdE.or rfl rfl rfl (.inr (.inl rfl))) (fun u56=>?_)
 refine Fw.f rfl (Rd.indexArr (j:=i) rfl (ArrTy.of (size:=1) Tryz.underlying340 (by kernel_rfl)) rfl rfl (by omega)) ?_
 refine Fw.up rfl rfl rfl (Up.store (i:=1) rfl rfl rfl c282 rfl rfl (box_takesK (by simp only[List.length_set,hW.1];omega))) (ocs (oca 0 rfl) (ocn _)) ?_
 refine To.z 4 ?_
 refine To.r (Rd.addN (a:=i) (b:=1) rfl rfl rfl (by omega)) ?_
 refine To.z 3 ?_
 refine To.sub [(0,pv hb),(2,pv b2),(22,nv ((i+1)))] ⟨rfl,rfl,rfl,trivial⟩ ?_
 refine To.ag (16-(i+1)) (by omega) ⟨(W.set (0+i*1) (.int .u32 ((u56:Nat):Int))),i+1,rfl,rfl,rfl,(by omega),(hW.set rfl)⟩
 refine To.z 12 ?_
 refine To.sub [(0,pv hb),(2,pv b2),(5,nv 16)] ⟨rfl,rfl,rfl,trivial⟩ ?_
 refine To.loop (fun mz ρ Γ=>∃(W:List Value) (t:Nat),ρ=[(0,pv hb),(2,pv b2),(5,nv t)]∧Γ=[box hb cs 297,box b2 W 340,cstC]∧mz=64-t∧(16≤t∧t≤64)∧(ShK (fun _=> .u32) 64 W)) (64-16) ⟨W,16,rfl,rfl,rfl,⟨by decide,by decide⟩,hW⟩ ?_
 rintro mz _ _ ⟨W,t,rfl,rfl,rfl,ht,hW⟩
 refine To.z 7 ?_
 refine To.cp rfl (fun k60=>?_) (fun k60=>?_)
 refine To.z 5 ?_
 refine To.flow [box b2 W 340] [⟨0,[],0⟩,⟨1,[],0⟩,⟨2,[],0⟩,⟨3,[],0⟩,⟨4,[],0⟩,⟨5,[],0⟩,⟨6,[],0⟩,⟨7,[],0⟩,⟨8,[],0⟩,⟨9,[],0⟩] mixed (by kernel_rfl) (ocs (oca 1 rfl) (ocn _)) (Fw.mo ?_)
 refine Fw.f rfl (Rd.as (v':=nv (t-15)) (congrArg (Value.int .i64) (by omega)) (Rd.sub64 (m:=((t:Nat):Int)) (n:=15) rfl rfl rfl (by omega))) ?_
 refine Fw.f rfl (Rd.indexArr (j:=(t-15)) rfl (ArrTy.of (size:=1) Tryz.underlying340 (by kernel_rfl)) rfl rfl (by omega)) ?_
 refine Fw.freeE rfl rfl rfl rfl (RdE.cell (i:=0) rfl rfl c282 rfl hW (by omega) rfl) (fun u66=>?_)
 refine Fw.mo ?_
 refine Fw.f rfl (Rd.as (v':=nv (t-2)) (congrArg (Value.int .i64) (by omega)) (Rd.sub64 (m:=((t:Nat):Int)) (n:=2) rfl rfl rfl (by omega))) ?_
 refine Fw.f rfl (Rd.indexArr (j:=(t-2)) rfl (ArrTy.of (size:=1) Tryz.underlying340 (by kernel_rfl)) rfl rfl (by omega)) ?_
 refine Fw.freeE rfl rfl rfl rfl (RdE.cell (i:=0) rfl rfl c282 rfl hW (by omega) rfl) (fun u70=>?_)
 refine To.z 7 ?_
 refine To.cQ rfl rfl rfl (Ent.fn rfl rfl ca211) (rotr_fn u66 7) rfl (ocn _) ?_
 rintro _ _ ⟨r,rfl,rfl⟩
 refine⟨rfl,?_⟩
 refine To.m ?_
 refine To.cQ rfl rfl rfl (Ent.fn rfl rfl ca211) (rotr_fn u66 18) rfl (ocn _) ?_
 rintro _ _ ⟨r_2,rfl,rfl⟩
 refine⟨rfl,?_⟩
 refine To.rdE rfl rfl rfl (RdE.xor rfl rfl rfl (.inr (.inl rfl))) (fun u75=>?_)
 refine To.m ?_
 refine To.rdE rfl rfl rfl (RdE.shr rfl rfl rfl (by omega)) (fun u77=>?_)
 refine To.rdE rfl rfl rfl (RdE.xor rfl rfl rfl (.inr (.inl rfl))) (fun u78=>?_)
 refine To.z 6 ?_
 refine To.cQ rfl rfl rfl (Ent.fn rfl rfl ca211) (rotr_fn u70 17) rfl (ocn _) ?_
 rintro _ _ ⟨r_3,rfl,rfl⟩
 refine⟨rfl,?_⟩
 refine To.m ?_
 refine To.cQ rfl rfl rfl (Ent.fn rfl rfl ca211) (rotr_fn u70 19) rfl (ocn _) ?_
 rintro _ _ ⟨r_4,rfl,rfl⟩
 refine⟨rfl,?_⟩
 refine To.rdE rfl rfl rfl (RdE.xor rfl rfl rfl (.inr (.inl rfl))) (fun u83=>?_)
 refine To.m ?_
 refine To.rdE rfl rfl rfl (RdE.shr rfl rfl rfl (by omega)) (fun u85=>?_)
 refine To.rdE rfl rfl rfl (RdE.xor rfl rfl rfl (.inr (.inl rfl))) (fun u86=>?_)
 refine To.z 3 ?_
 refine To.flow [] [⟨0,[],0⟩,⟨1,[],0⟩,⟨2,[],0⟩,⟨5,[],0⟩,⟨7,[],0⟩,⟨8,[],0⟩,⟨12,[],0⟩,⟨3,[],1⟩,⟨4,[],1⟩,⟨6,[],0⟩,⟨9,[],1⟩,⟨10,[],1⟩,⟨11,[],0⟩,⟨13,[],0⟩,⟨14,[],1⟩,⟨15,[],5⟩] mixed (by kernel_rfl) (ocn _) ?_
 refine To.z 2 ?_
 refine Fw.f rfl (Rd.as (v':=nv (t-16)) (congrArg (Value.int .i64) (by omega)) (Rd.sub64 (m:=((t:Nat):Int)) (n:=16) rfl rfl rfl (by omega))) ?_
 refine To.z 2 ?_
 refine Fw.f rfl (Rd.as (v':=nv (t-7)) (congrArg (Value.int .i64) (by omega)) (Rd.sub64 (m:=((t:Nat):Int)) (n:=7) rfl rfl rfl (by omega))) ?_
 refine Fw.mo ?_
 refine Fw.r rfl (Rd.indexArr (j:=(t-16)) rfl (ArrTy.of (size:=1) Tryz.underlying340 (by kernel_rfl)) rfl rfl (by omega)) ?_
 refine Fw.rdE rfl rfl rfl rfl (RdE.cell (i:=1) rfl rfl c282 rfl hW (by omega) rfl) (fun u91=>?_)
 refine Fw.freeE rfl rfl rfl rfl (RdE.add rfl rfl rfl (.inr (.inl rfl))) (fun u93=>?_)
 refine Fw.r rfl (Rd.indexArr (j:=(t-7)) rfl (ArrTy.of (size:=1) Tryz.underlying340 (by kernel_rfl)) rfl rfl (by omega)) ?_
 refine Fw.rdE rfl rfl rfl rfl (RdE.cell (i:=1) rfl rfl c282 rfl hW (by omega) rfl) (fun u97=>?_)
 refine Fw.freeE rfl rfl rfl rfl (RdE.add rfl rfl rfl (.inr (.inl rfl))) (fun u98=>?_)
 refine Fw.freeE rfl rfl rfl rfl (RdE.add rfl rfl rfl (.inr (.inl rfl))) (fun u100=>?_)
 refine Fw.r rfl (Rd.indexArr (j:=t) rfl (ArrTy.of (size:=1) Tryz.underlying340 (by kernel_rfl)) rfl rfl (by omega)) ?_
 refine Fw.up rfl rfl rfl (Up.store (i:=1) rfl rfl rfl c282 rfl rfl (box_takesK (by simp only[List.length_set,hW.1];omega))) (ocn _) ?_
 refine To.z 5 ?_
 refine To.r (Rd.addN (a:=t) (b:=1) rfl rfl rfl (by omega)) ?_
 refine To.z 3 ?_
 refine To.sub [(0,pv hb),(2,pv b2),(5,nv ((t+1)))] ⟨rfl,rfl,rfl,trivial⟩ ?_
 refine To.ag (64-(t+1)) (by omega) ⟨(W.set (0+t*1) (.int .u32 ((u100:Nat):Int))),t+1,rfl,rfl,rfl,(by omega),(hW.set rfl)⟩
 refine To.z 10 ?_
 obtain⟨a0,ha0⟩:=hcs.at (i:=0) (k:= .u32) (by decide) rfl
 obtain⟨a1,ha1⟩:=hcs.at (i:=1) (k:= .u32) (by decide) rfl
 obtain⟨a2,ha2⟩:=hcs.at (i:=2) (k:= .u32) (by decide) rfl
 obtain⟨a3,ha3⟩:=hcs.at (i:=3) (k:= .u32) (by decide) rfl
 obtain⟨a4,ha4⟩:=hcs.at (i:=4) (k:= .u32) (by decide) rfl
 obtain⟨a5,ha5⟩:=hcs.at (i:=5) (k:= .u32) (by decide) rfl
 obtain⟨a6,ha6⟩:=hcs.at (i:=6) (k:= .u32) (by decide) rfl
 obtain⟨a7,ha7⟩:=hcs.at (i:=7) (k:= .u32) (by decide) rfl
 refine To.r (Rd.lS (i:=0) (us:=[.int .u32 ((a0:Nat):Int), .int .u32 ((a1:Nat):Int), .int .u32 ((a2:Nat):Int), .int .u32 ((a3:Nat):Int), .int .u32 ((a4:Nat):Int), .int .u32 ((a5:Nat):Int), .int .u32 ((a6:Nat):Int), .int .u32 ((a7:Nat):Int)]) rfl rfl r294 rfl (box_gives (n:=8) (sub8 ha0 ha1 ha2 ha3 ha4 ha5 ha6 ha7)) rfl) ?_
 refine To.al fun b10=>?_
 refine To.z 10 ?_
 refine To.sub [(0,pv hb),(2,pv b2),(10,pv b10),(106,nv 0)] ⟨rfl,rfl,rfl,rfl,trivial⟩ ?_
 refine To.up2 (To.up2 ?_)
 refine To.loop (fun mz ρ Γ=>∃(s0:Nat) (s1:Nat) (s2:Nat) (s3:Nat) (s4:Nat) (s5:Nat) (s6:Nat) (s7:Nat) (j:Nat),ρ=[(0,pv hb),(2,pv b2),(10,pv b10),(106,nv j)]∧Γ=[box hb cs 297,box b2 W 340,box b10 [.int .u32 ((s0:Nat):Int), .int .u32 ((s1:Nat):Int), .int .u32 ((s2:Nat):Int), .int .u32 ((s3:Nat):Int), .int .u32 ((s4:Nat):Int), .int .u32 ((s5:Nat):Int), .int .u32 ((s6:Nat):Int), .int .u32 ((s7:Nat):Int)] 294,cstC]∧mz=64-j∧(j≤64)) (64-0) ⟨a0,a1,a2,a3,a4,a5,a6,a7,0,rfl,rfl,rfl,(Nat.zero_le _)⟩ ?_
 rintro mz _ _ ⟨s0,s1,s2,s3,s4,s5,s6,s7,j,rfl,rfl,rfl,hj⟩
 refine To.z 6 ?_
 refine To.cp rfl (fun k107=>?_) (fun k107=>?_)
 refine To.z 11 ?_
 refine To.flow [box b10 [.int .u32 ((s0:Nat):Int), .int .u32 ((s1:Nat):Int), .int .u32 ((s2:Nat):Int), .int .u32 ((s3:Nat):Int), .int .u32 ((s4:Nat):Int), .int .u32 ((s5:Nat):Int), .int .u32 ((s6:Nat):Int), .int .u32 ((s7:Nat):Int)] 294] [⟨0,[],0⟩,⟨1,[],0⟩,⟨2,[],0⟩,⟨3,[],0⟩,⟨4,[],0⟩,⟨5,[],0⟩,⟨6,[],0⟩,⟨7,[],0⟩,⟨8,[],0⟩,⟨9,[],0⟩,⟨10,[],0⟩,⟨11,[],0⟩,⟨12,[],0⟩,⟨13,[],0⟩,⟨14,[],0⟩,⟨15,[],0⟩,⟨16,[],0⟩,⟨17,[],0⟩] mixed (by kernel_rfl) (ocs (oca 2 rfl) (ocn _)) (Fw.f rfl (Rd.indexArr (j:=0) rfl (ArrTy.of (size:=1) Tryz.underlying294 (by kernel_rfl)) rfl rfl (by decide)) ?_)
 refine To.z 1 ?_
 refine Fw.f rfl (Rd.indexArr (j:=1) rfl (ArrTy.of (size:=1) Tryz.underlying294 (by kernel_rfl)) rfl rfl (by decide)) ?_
 refine To.z 1 ?_
 refine Fw.f rfl (Rd.indexArr (j:=2) rfl (ArrTy.of (size:=1) Tryz.underlying294 (by kernel_rfl)) rfl rfl (by decide)) ?_
 refine To.z 1 ?_
 refine Fw.f rfl (Rd.indexArr (j:=4) rfl (ArrTy.of (size:=1) Tryz.underlying294 (by kernel_rfl)) rfl rfl (by decide)) ?_
 refine To.z 1 ?_
 refine Fw.f rfl (Rd.indexArr (j:=5) rfl (ArrTy.of (size:=1) Tryz.underlying294 (by kernel_rfl)) rfl rfl (by decide)) ?_
 refine To.z 1 ?_
 refine Fw.f rfl (Rd.indexArr (j:=6) rfl (ArrTy.of (size:=1) Tryz.underlying294 (by kernel_rfl)) rfl rfl (by decide)) ?_
 refine To.z 10 ?_
 refine To.flow [box b10 [.int .u32 ((s0:Nat):Int), .int .u32 ((s1:Nat):Int), .int .u32 ((s2:Nat):Int), .int .u32 ((s3:Nat):Int), .int .u32 ((s4:Nat):Int), .int .u32 ((s5:Nat):Int), .int .u32 ((s6:Nat):Int), .int .u32 ((s7:Nat):Int)] 294,box b2 W 340,cstC] [⟨0,[],0⟩,⟨1,[],0⟩,⟨2,[],0⟩,⟨4,[],0⟩,⟨7,[],0⟩,⟨11,[],0⟩,⟨12,[],0⟩,⟨13,[],0⟩,⟨14,[],0⟩,⟨15,[],0⟩,⟨16,[],0⟩,⟨17,[],0⟩,⟨18,[],0⟩,⟨20,[],0⟩,⟨21,[],0⟩,⟨22,[],0⟩,⟨24,[],0⟩,⟨25,[],0⟩,⟨26,[],0⟩,⟨3,[],4⟩,⟨5,[3],4⟩,⟨6,[3,5],0⟩,⟨8,[3,5],4⟩,⟨9,[3,5,8],0⟩,⟨10,[3,5,8],0⟩,⟨19,[3,5,8],0⟩,⟨23,[3,5,8],0⟩,⟨27,[3,5,8],0⟩,⟨28,[3,5,8],0⟩] mixed (by kernel_rfl) (ocs (oca 2 rfl) (ocs (oca 1 rfl) (ocs (oca 3 rfl) (ocn _)))) (Fw.f rfl (Rd.indexArr (j:=7) rfl (ArrTy.of (size:=1) Tryz.underlying294 (by kernel_rfl)) rfl rfl (by decide)) ?_)
 refine To.z 6 ?_
 refine Fw.freeE rfl rfl rfl rfl (RdE.and rfl rfl rfl (.inr (.inl rfl))) (fun u134=>?_)
 refine Fw.mo ?_
 refine Fw.freeE rfl rfl rfl rfl (RdE.cpl rfl rfl (.inr (.inl rfl))) (fun u136=>?_)
 refine Fw.mo ?_
 refine Fw.freeE rfl rfl rfl rfl (RdE.and rfl rfl rfl (.inr (.inl rfl))) (fun u138=>?_)
 refine Fw.freeE rfl rfl rfl rfl (RdE.xor rfl rfl rfl (.inr (.inl rfl))) (fun u139=>?_)
 refine Fw.mo ?_
 refine Fw.f rfl (Rd.indexArr (j:=j) rfl (ArrTy.of (size:=1) Tryz.underlying340 (by kernel_rfl)) rfl rfl (by omega)) ?_
 refine Fw.freeE rfl rfl rfl rfl (RdE.roCell (i:=2) rfl rfl c282 rfl cK_sh (by omega) rfl) (fun u143=>?_)
 refine Fw.mo ?_
 refine Fw.f rfl (Rd.indexArr (j:=j) rfl (ArrTy.of (size:=1) Tryz.underlying340 (by kernel_rfl)) rfl rfl (by omega)) ?_
 refine Fw.freeE rfl rfl rfl rfl (RdE.cell (i:=1) rfl rfl c282 rfl hW (by omega) rfl) (fun u147=>?_)
 refine Fw.callM rfl rfl rfl rfl rfl (Ent.fn rfl rfl ca211) (rotr_fn s4 6) rfl (ocn _) ?_
 rintro _ _ ⟨r,rfl,rfl⟩
 refine⟨rfl,?_⟩
 refine Fw.callM rfl rfl rfl rfl rfl (Ent.fn rfl rfl ca211) (rotr_fn s4 11) rfl (ocn _) ?_
 rintro _ _ ⟨r_2,rfl,rfl⟩
 refine⟨rfl,?_⟩
 refine Fw.freeE rfl rfl rfl rfl (RdE.xor rfl rfl rfl (.inr (.inl rfl))) (fun u127=>?_)
 refine Fw.callM rfl rfl rfl rfl rfl (Ent.fn rfl rfl ca211) (rotr_fn s4 25) rfl (ocn _) ?_
 rintro _ _ ⟨r_3,rfl,rfl⟩
 refine⟨rfl,?_⟩
 refine Fw.freeE rfl rfl rfl rfl (RdE.xor rfl rfl rfl (.inr (.inl rfl))) (fun u130=>?_)
 refine Fw.freeE rfl rfl rfl rfl (RdE.add rfl rfl rfl (.inr (.inl rfl))) (fun u131=>?_)
 refine Fw.freeE rfl rfl rfl rfl (RdE.add rfl rfl rfl (.inr (.inl rfl))) (fun u140=>?_)
 refine Fw.freeE rfl rfl rfl rfl (RdE.add rfl rfl rfl (.inr (.inl rfl))) (fun u144=>?_)
 refine Fw.freeE rfl rfl rfl rfl (RdE.add rfl rfl rfl (.inr (.inl rfl))) (fun u148=>?_)
 refine To.z 6 ?_
 refine To.cQ rfl rfl rfl (Ent.fn rfl rfl ca211) (rotr_fn s0 2) rfl (ocn _) ?_
 rintro _ _ ⟨r_4,rfl,rfl⟩
 refine⟨rfl,?_⟩
 refine To.m ?_
 refine To.cQ rfl rfl rfl (Ent.fn rfl rfl ca211) (rotr_fn s0 13) rfl (ocn _) ?_
 rintro _ _ ⟨r_5,rfl,rfl⟩
 refine⟨rfl,?_⟩
 refine To.rdE rfl rfl rfl (RdE.xor rfl rfl rfl (.inr (.inl rfl))) (fun u153=>?_)
 refine To.m ?_
 refine To.cQ rfl rfl rfl (Ent.fn rfl rfl ca211) (rotr_fn s0 22) rfl (ocn _) ?_
 rintro _ _ ⟨r_6,rfl,rfl⟩
 refine⟨rfl,?_⟩
 refine To.rdE rfl rfl rfl (RdE.xor rfl rfl rfl (.inr (.inl rfl))) (fun u156=>?_)
 refine To.z 2 ?_
 refine To.rdE rfl rfl rfl (RdE.and rfl rfl rfl (.inr (.inl rfl))) (fun u159=>?_)
 refine To.z 2 ?_
 refine To.rdE rfl rfl rfl (RdE.and rfl rfl rfl (.inr (.inl rfl))) (fun u162=>?_)
 refine To.rdE rfl rfl rfl (RdE.xor rfl rfl rfl (.inr (.inl rfl))) (fun u163=>?_)
 refine To.z 2 ?_
 refine To.rdE rfl rfl rfl (RdE.and rfl rfl rfl (.inr (.inl rfl))) (fun u166=>?_)
 refine To.rdE rfl rfl rfl (RdE.xor rfl rfl rfl (.inr (.inl rfl))) (fun u167=>?_)
 refine To.rdE rfl rfl rfl (RdE.add rfl rfl rfl (.inr (.inl rfl))) (fun u168=>?_)
 refine To.z 2 ?_
 refine To.sub [(0,pv hb),(2,pv b2),(10,pv b10),(106,nv j),(107, .bool (decide (((j:Nat):Int)<64))),(11,nv j),(12, .int .u32 ((s0:Nat):Int)),(13, .int .u32 ((s1:Nat):Int)),(14, .int .u32 ((s2:Nat):Int)),(15, .int .u32 ((s4:Nat):Int)),(16, .int .u32 ((s5:Nat):Int)),(17, .int .u32 ((s6:Nat):Int)),(18, .int .u32 ((u148:Nat):Int)),(19, .int .u32 ((u168:Nat):Int))] ⟨rfl,rfl,rfl,rfl,rfl,rfl,rfl,rfl,rfl,rfl,rfl,rfl,rfl,rfl,trivial⟩ ?_
 refine To.z 4 ?_
 refine To.rdE rfl rfl rfl (RdE.add rfl rfl rfl (.inr (.inl rfl))) (fun u171=>?_)
 refine To.z 3 ?_
 refine To.r (Rd.indexArr (j:=3) rfl (ArrTy.of (size:=1) Tryz.underlying294 (by kernel_rfl)) rfl rfl (by decide)) ?_
 refine To.z 2 ?_
 refine To.rdE rfl rfl rfl (RdE.add rfl rfl rfl (.inr (.inl rfl))) (fun u178=>?_)
 refine To.z 3 ?_
 refine To.r (Rd.build (vs:=[(0, .int .u32 ((u171:Nat):Int)),(1, .int .u32 ((s0:Nat):Int)),(2, .int .u32 ((s1:Nat):Int)),(3, .int .u32 ((s2:Nat):Int)),(4, .int .u32 ((u178:Nat):Int)),(5, .int .u32 ((s4:Nat):Int)),(6, .int .u32 ((s5:Nat):Int)),(7, .int .u32 ((s6:Nat):Int))]) (cells:=[.int .u32 ((u171:Nat):Int), .int .u32 ((s0:Nat):Int), .int .u32 ((s1:Nat):Int), .int .u32 ((s2:Nat):Int), .int .u32 ((u178:Nat):Int), .int .u32 ((s4:Nat):Int), .int .u32 ((s5:Nat):Int), .int .u32 ((s6:Nat):Int)]) rfl rfl rfl (by kernel_rfl)) ?_
 refine To.z 5 ?_
 refine To.r (Rd.addN (a:=j) (b:=1) rfl rfl rfl (by omega)) ?_
 refine To.z 3 ?_
 refine To.sub [(0,pv hb),(2,pv b2),(10,pv b10),(106,nv ((j+1)))] ⟨rfl,rfl,rfl,rfl,trivial⟩ ?_
 refine To.ag (64-(j+1)) (by omega) ⟨u171,s0,s1,s2,u178,s4,s5,s6,j+1,rfl,rfl,rfl,(by omega)⟩
 refine To.z 12 ?_
 refine To.sub [(0,pv hb),(184, .agg #[.int .u32 ((s0:Nat):Int), .int .u32 ((s1:Nat):Int), .int .u32 ((s2:Nat):Int), .int .u32 ((s3:Nat):Int), .int .u32 ((s4:Nat):Int), .int .u32 ((s5:Nat):Int), .int .u32 ((s6:Nat):Int), .int .u32 ((s7:Nat):Int)]),(185,nv 0)] ⟨rfl,rfl,rfl,trivial⟩ ?_
 refine To.del3 (To.del2 (To.del1 ?_))
 refine To.loop (fun mz ρ Γ=>∃(ds:List Value) (m:Nat),ρ=[(0,pv hb),(184, .agg #[.int .u32 ((s0:Nat):Int), .int .u32 ((s1:Nat):Int), .int .u32 ((s2:Nat):Int), .int .u32 ((s3:Nat):Int), .int .u32 ((s4:Nat):Int), .int .u32 ((s5:Nat):Int), .int .u32 ((s6:Nat):Int), .int .u32 ((s7:Nat):Int)]),(185,nv m)]∧Γ=[box hb ds 297]∧mz=8-m∧(m≤8)∧(ShK kdH 73 ds)) (8-0) ⟨cs,0,rfl,rfl,rfl,(Nat.zero_le _),hcs⟩ ?_
 rintro mz _ _ ⟨ds,m,rfl,rfl,rfl,hm,hds⟩
 refine To.z 6 ?_
 refine To.cp rfl (fun k186=>?_) (fun k186=>?_)
 refine To.z 7 ?_
 refine To.rdE rfl rfl rfl (RdE.indexV rfl Tryz.underlying294 Tryz.underlying282 (by kernel_rfl) rfl rfl (by omega) (sh8 s0 s1 s2 s3 s4 s5 s6 s7)) (fun u188=>?_)
 refine To.z 4 ?_
 refine To.flow [] [⟨0,[],0⟩,⟨1,[],0⟩,⟨2,[],0⟩,⟨6,[],0⟩,⟨8,[],0⟩,⟨9,[],0⟩,⟨3,[],1⟩,⟨4,[],1⟩,⟨5,[],1⟩,⟨7,[],1⟩,⟨10,[],1⟩,⟨11,[],5⟩] mixed (by kernel_rfl) (ocn _) ?_
 refine To.z 7 ?_
 refine Fw.r rfl (Rd.indexArr (j:=m) rfl (ArrTy.of (size:=1) Tryz.underlying294 (by kernel_rfl)) rfl rfl (by omega)) ?_
 refine Fw.rdE rfl rfl rfl rfl (RdE.cell (i:=0) rfl rfl c282 rfl hds (by omega) (kdH_w (by omega))) (fun u194=>?_)
 refine Fw.rdE rfl rfl rfl rfl (RdE.add rfl rfl rfl (.inr (.inl rfl))) (fun u196=>?_)
 refine Fw.r rfl (Rd.indexArr (j:=m) rfl (ArrTy.of (size:=1) Tryz.underlying294 (by kernel_rfl)) rfl rfl (by omega)) ?_
 refine Fw.up rfl rfl rfl (Up.store (i:=0) rfl rfl rfl c282 rfl rfl (box_takesK (by simp only[List.length_set,hds.1];omega))) (ocn _) ?_
 refine To.z 4 ?_
 refine To.r (Rd.addN (a:=m) (b:=1) rfl rfl rfl (by omega)) ?_
 refine To.z 3 ?_
 refine To.sub [(0,pv hb),(184, .agg #[.int .u32 ((s0:Nat):Int), .int .u32 ((s1:Nat):Int), .int .u32 ((s2:Nat):Int), .int .u32 ((s3:Nat):Int), .int .u32 ((s4:Nat):Int), .int .u32 ((s5:Nat):Int), .int .u32 ((s6:Nat):Int), .int .u32 ((s7:Nat):Int)]),(185,nv ((m+1)))] ⟨rfl,rfl,rfl,trivial⟩ ?_
 refine To.ag (8-(m+1)) (by omega) ⟨(ds.set (0+m*1) (.int .u32 ((u196:Nat):Int))),m+1,rfl,rfl,rfl,(by omega),(hds.set (kdH_w (by omega)))⟩
 refine To.z 4 ?_
 refine To.end0 (.inr rfl) Tryz.results166 ?_
 exact⟨ds,rfl,rfl,hds⟩
theorem write0_fn(hb:Nat)(cs0:List Value)(hcs0:ShK kdH 73 cs0)(A0:Option Addr)(q0:Nat)(l0:List Nat)(hq0:l0.length≤q0):
    Does Tryz.prog 111 [pv hb, .slice A0 l0.length q0] [box hb cs0 297,cstC,ros encY A0 l0] (fun v Γ'=>∃cs',v= .tuple #[]∧Γ'=[box hb cs' 297]∧ShK kdH 73 cs'):=by
 refine Does.enter Tryz.func111 rfl Tryz.ntmps111 rfl (fun w0=>?_)
 refine To.z 4 ?_
 refine To.r (Rd.eqlNil rfl Tryz.underlying234 rfl rfl) ?_
 refine To.z 6 ?_
 refine To.sub [(0,pv hb),(1, .slice A0 l0.length q0)] ⟨rfl,rfl,trivial⟩ ?_
 refine To.loop (fun mz ρ Γ=>∃(cs:List Value) (A:Option Addr) (q:Nat) (l:List Nat),ρ=[(0,pv hb),(1, .slice A l.length q)]∧Γ=[box hb cs 297,cstC,ros encY A l]∧mz=l.length∧(ShK kdH 73 cs)∧(l.length≤q)) (l0.length) ⟨cs0,A0,q0,l0,rfl,rfl,rfl,hcs0,hq0⟩ ?_
 rintro mz _ _ ⟨cs,A,q,l,rfl,rfl,rfl,hcs,hq⟩
 refine To.z 8 ?_
 refine To.cp rfl (fun k10=>?_) (fun k10=>?_)
 refine To.z 8 ?_
 refine To.rdE rfl rfl rfl (RdE.cell (i:=0) rfl rfl c268 rfl hcs (by omega) rfl) (fun u14=>?_)
 refine To.r (Rd.remN (a:=u14) (b:=64) rfl rfl rfl (by omega)) ?_
 refine To.r (Rd.conv rfl rfl Tryz.underlying268 Tryz.underlying3 (IntWalk.i64_in _ (by omega))) ?_
 refine To.z 9 ?_
 refine To.r (Rd.sliceArrLo (lo:=(u14%64)) rfl (ArrTy.of (size:=1) Tryz.underlying295 (by kernel_rfl)) rfl rfl (by omega)) ?_
 refine To.m ?_
 refine To.ge rfl rfl rfl (Ge.copyBox (i:=0) (j:=2) rfl Tryz.underlying22 (by kernel_rfl) rfl rfl rfl rfl hcs (by omega) (fun m h1 h2=>kdH_b (by omega) (by omega))) ?_
 rintro _ _ ⟨cs2,n2,rfl,rfl,hcs2,hn1,hn2,hn3⟩
 refine To.z 4 ?_
 refine To.tailR encY_ok q n2 2 rfl hq hn1 ?_
 refine To.z 3 ?_
 refine To.r (Rd.as (v':= .slice (slAt A q n2 1) (l.drop n2).length (q-n2)) (congrArg (fun z=>Value.slice (slAt A q n2 1) z (q-n2)) List.length_drop.symm) (Rd.sliceLo (lo:=n2) rfl s22 rfl rfl hn1)) ?_
 refine To.z 8 ?_
 refine To.rdE rfl rfl rfl (RdE.cell (i:=1) rfl rfl c268 rfl hcs2 (by omega) rfl) (fun u30=>?_)
 refine To.m ?_
 refine To.rdE rfl rfl rfl (RdE.conv rfl rfl Tryz.underlying3 Tryz.underlying268 (.inr (.inr rfl))) (fun u32=>?_)
 refine To.rdE rfl rfl rfl (RdE.add rfl rfl rfl (.inr (.inr rfl))) (fun u33=>?_)
 refine To.z 2 ?_
 refine To.u (Up.store (i:=1) rfl rfl rfl c268 rfl rfl (box_takesK (by simp only[List.length_set,hcs2.1];omega))) ?_
 refine To.z 6 ?_
 refine To.r (Rd.addN (a:=(u14%64)) (b:=n2) rfl rfl rfl (by omega)) ?_
 refine To.z 3 ?_
 refine To.cp rfl (fun k39=>?_) (fun k39=>?_)
 refine To.dup 2 rfl rfl ?_
 refine To.z 2 ?_
 refine To.cl [2,0] rfl rfl rfl (Ent.fn rfl rfl ca166) rfl (mix_fn hb (cs2.set (72) (.int .u64 ((u33:Nat):Int))) (hcs2.set rfl)) ?_
 rintro _ _ ⟨cs4,rfl,rfl,hcs4⟩
 refine To.z 3 ?_
 refine To.sub [(0,pv hb),(1, .slice (slAt A q n2 1) (l.drop n2).length (q-n2))] ⟨rfl,rfl,trivial⟩ ?_
 refine To.del3 (To.up2 (To.up1 ?_))
 refine To.ag ((l.drop n2).length) (by rw[List.length_drop];omega) ⟨cs4,(slAt A q n2 1),(q-n2),(l.drop n2),rfl,rfl,rfl,hcs4,(by rw[List.length_drop];omega)⟩
 refine To.z 3 ?_
 refine To.sub [(0,pv hb),(1, .slice (slAt A q n2 1) (l.drop n2).length (q-n2))] ⟨rfl,rfl,trivial⟩ ?_
 refine To.del3 (To.up2 (To.up2 ?_))
 refine To.ag ((l.drop n2).length) (by rw[List.length_drop];omega) ⟨(cs2.set (72) (.int .u64 ((u33:Nat):Int))),(slAt A q n2 1),(q-n2),(l.drop n2),rfl,rfl,rfl,(hcs2.set rfl),(by rw[List.length_drop];omega)⟩
 refine To.z 4 ?_
 refine To.del2 (To.del1 (To.end0 (.inr rfl) Tryz.results111 ?_))
 exact⟨cs,rfl,rfl,hcs⟩
theorem eight_fn(x:Nat):
    Does Tryz.prog 167 [.int .u64 ((x:Nat):Int)] [] (fun v Γ'=>∃(b:Nat) (D:List Nat),v= .slice (some ⟨b,0,none⟩) D.length 8∧Γ'=[rows encY 5 1 (some ⟨b,0,none⟩) 8 D]∧D.length=8):=by
 refine Does.enter Tryz.func167 rfl Tryz.ntmps167 rfl (fun w0=>?_)
 refine To.z 7 ?_
 refine To.mk rfl rfl rfl (Mk.makeRows (enc:=encY) (z:=0) (n:=8) rfl rfl s22 rfl rfl (by omega) (by simp only[maxLen];omega)) ?_
 rintro _ _ ⟨b5,rfl,rfl⟩
 refine To.z 7 ?_
 refine To.r (Rd.as (v':=nv 8) rfl (Rd.len rfl rfl Tryz.underlying22)) ?_
 refine To.z 4 ?_
 refine To.sub [(0, .int .u64 ((x:Nat):Int)),(3, .slice (some ⟨b5,0,none⟩) (List.replicate 8 0).length 8),(7,nv 8),(8,nv 0)] ⟨rfl,rfl,rfl,rfl,trivial⟩ ?_
 refine To.loop (fun mz ρ Γ=>∃(D:List Nat) (j:Nat),ρ=[(0, .int .u64 ((x:Nat):Int)),(3, .slice (some ⟨b5,0,none⟩) D.length 8),(7,nv 8),(8,nv j)]∧Γ=[rows encY 5 1 (some ⟨b5,0,none⟩) 8 D]∧mz=8-j∧(j≤8)∧(D.length=8)) (8-0) ⟨(List.replicate 8 0),0,rfl,rfl,rfl,(Nat.zero_le _),rfl⟩ ?_
 rintro mz _ _ ⟨D,j,rfl,rfl,rfl,hj,hD⟩
 refine To.z 6 ?_
 refine To.cp rfl (fun k9=>?_) (fun k9=>?_)
 refine To.z 10 ?_
 obtain⟨d0,hd0⟩:∃z0,D[j]?=some z0:=⟨D[j]'(by omega),gge _⟩
 refine To.z 5 ?_
 refine To.r (Rd.as (v':=nv (8*j)) (congrArg (Value.int .i64) (by omega)) (Rd.mul64 (m:=8) (n:=((j:Nat):Int)) rfl rfl rfl (by omega))) ?_
 refine To.r (Rd.sub64 rfl rfl rfl (by omega)) ?_
 refine To.rdE rfl rfl rfl (RdE.shr rfl rfl rfl (by omega)) (fun u17=>?_)
 refine To.rdE rfl rfl rfl (RdE.conv rfl rfl Tryz.underlying268 Tryz.underlying5 (.inl rfl)) (fun u18=>?_)
 refine To.z 1 ?_
 refine To.u (Up.store (i:=0) rfl rfl rfl c5 rfl rfl (rows_takes encY_ok (y:=u18) (by decide) (by omega))) ?_
 refine To.z 4 ?_
 refine To.r (Rd.addN (a:=j) (b:=1) rfl rfl rfl (by omega)) ?_
 refine To.z 3 ?_
 refine To.sub [(0, .int .u64 ((x:Nat):Int)),(3, .slice (some ⟨b5,0,none⟩) (D.set j u18).length 8),(7,nv 8),(8,nv ((j+1)))] ⟨rfl,(congrArg (fun n=>some (Value.slice (some ⟨b5,0,none⟩) n 8)) List.length_set.symm),rfl,rfl,trivial⟩ ?_
 refine To.ag (8-(j+1)) (by omega) ⟨(D.set j u18),j+1,rfl,rfl,rfl,(by omega),(by rw[List.length_set];exact hD)⟩
 refine To.z 12 ?_
 refine To.end1 (.inl rfl) Tryz.results167 rfl ?_
 exact⟨b5,D,rfl,rfl,hD⟩
def idL(f:Nat→Nat):List Value:=(List.range 32).map fun i=>Value.int .u8 ((f i:Nat):Int)
theorem hash0(ws:List Nat)(h:ws.length=8):ShK kdH 73 (ws.map (fun z:Nat=>Value.int .u32 (z:Int))++(List.replicate 64 (.int .u8 0)++[.int .u64 0])):=⟨by simp[h],fun i hi=>by
 by_cases h1:i<8
 · rw[List.getElem?_append_left (by rw[List.length_map];omega),kdH_w h1,List.getElem?_map,gge (by omega)]
   exact⟨_,rfl⟩
 · rw[List.getElem?_append_right (by rw[List.length_map];omega),List.length_map,h]
   by_cases h2:i<72
   · rw[List.getElem?_append_left (by rw[List.length_replicate];omega),kdH_b (by omega) h2,List.getElem?_replicate,if_pos (by omega)]
     exact⟨0,rfl⟩
   · have e:i=72:=by omega
     subst e
     exact⟨0,rfl⟩⟩
set_option maxHeartbeats 4000000 in
set_option maxRecDepth 100000 in
theorem hsum_fn(hb:Nat)(cs:List Value)(hcs:ShK kdH 73 cs):
    Does Tryz.prog 112 [pv hb] [box hb cs 297,cstC] (fun v Γ'=>∃f:Nat→Nat,v= .agg (idL f).toArray∧Γ'=[]):=by
 refine Does.enter Tryz.func112 rfl Tryz.ntmps112 rfl (fun w0=>?_)
 refine To.s (To.g ?_)
 refine To.alloc rfl rfl rfl rfl z96 (fun b2=>?_)
 refine To.n (To.t (To.s (To.s (To.g (To.m ?_)))))
 refine To.r (Rd.eqlNil rfl Tryz.underlying234 rfl rfl) ?_
 refine To.n (To.t ?_)
 refine To.condF rfl ?_
 refine To.sp (To.t (To.s (To.g (To.m ?_))))
 refine To.nc ?_
 refine To.r (Rd.lS (i:=1) rfl rfl r297 rfl box_whole hcs.1) ?_
 refine To.alloc rfl rfl rfl rfl z297 (fun b3=>?_)
 refine To.u (Up.storeS (i:=0) (us:=cs) rfl rfl rfl r297 hcs.1 hcs.one rfl (bta hcs.1)) ?_
 refine To.n (To.t (To.s (To.g ?_)))
 refine To.f fl297_2 ?_
 refine To.rdE rfl rfl rfl (RdE.cell (i:=0) rfl rfl c268 rfl hcs (by omega) rfl) (fun u17=>?_)
 refine To.r (Rd.remN (a:=u17) (b:=64) rfl rfl rfl (by omega)) ?_
 refine To.r (Rd.conv rfl rfl Tryz.underlying268 Tryz.underlying3 (IntWalk.i64_in _ (by omega))) ?_
 refine To.a (To.n (To.t (To.s (To.g ?_))))
 refine To.m ?_
 refine To.r (Rd.sub64 rfl rfl rfl (by omega)) ?_
 refine To.a (To.n (To.t (To.s (To.s (To.g ?_)))))
 refine To.m ?_
 refine To.le ?_
 refine To.n (To.t ?_)
 refine To.meetC (T:=(Nat)) (fun t=>([(0,pv hb),(2,pv b2),(3,pv b3),(5,nv ((t)))],[box hb cs 297,box b2 [.int .u8 0, .int .u8 0, .int .u8 0, .int .u8 0, .int .u8 0, .int .u8 0, .int .u8 0, .int .u8 0, .int .u8 0, .int .u8 0, .int .u8 0, .int .u8 0, .int .u8 0, .int .u8 0, .int .u8 0, .int .u8 0, .int .u8 0, .int .u8 0, .int .u8 0, .int .u8 0, .int .u8 0, .int .u8 0, .int .u8 0, .int .u8 0, .int .u8 0, .int .u8 0, .int .u8 0, .int .u8 0, .int .u8 0, .int .u8 0, .int .u8 0, .int .u8 0] 96,box b3 cs 297,cstC])) (fun t=>(1≤(t)∧(t)≤64)) ?_ ?_
 refine To.cp rfl (fun k23=>?_) (fun k23=>?_)
 refine To.g (To.m ?_)
 refine To.r (Rd.add64 rfl rfl rfl (by omega)) ?_
 refine To.a (To.n (To.t (To.up1 (To.up2 ?_))))
 refine To.he (((56-((u17%64:Nat):Int))+64).toNat) ⟨by omega,by omega⟩ ⟨rfl,rfl,rfl,(congrArg (fun z=>some (Value.int .i64 z)) (by omega)),trivial⟩ rfl
 refine To.sp (To.t (To.up1 (To.up2 ?_)))
 refine To.he ((56-((u17%64:Nat):Int)).toNat) ⟨by omega,by omega⟩ ⟨rfl,rfl,rfl,(congrArg (fun z=>some (Value.int .i64 z)) (by omega)),trivial⟩ rfl
 rintro n hn
 replace hn:1≤n∧n≤64:=hn
 show To _ [(0,pv hb),(2,pv b2),(3,pv b3),(5,nv n)] [box hb cs 297,box b2 [.int .u8 0, .int .u8 0, .int .u8 0, .int .u8 0, .int .u8 0, .int .u8 0, .int .u8 0, .int .u8 0, .int .u8 0, .int .u8 0, .int .u8 0, .int .u8 0, .int .u8 0, .int .u8 0, .int .u8 0, .int .u8 0, .int .u8 0, .int .u8 0, .int .u8 0, .int .u8 0, .int .u8 0, .int .u8 0, .int .u8 0, .int .u8 0, .int .u8 0, .int .u8 0, .int .u8 0, .int .u8 0, .int .u8 0, .int .u8 0, .int .u8 0, .int .u8 0] 96,box b3 cs 297,cstC] _
 refine To.s (To.g (To.m ?_))
 refine To.m ?_
 refine To.r (Rd.addN (a:=n) (b:=8) rfl rfl rfl (by omega)) ?_
 refine To.mk rfl rfl rfl (Mk.makeC (n:=n) (c:=n+8) rfl s22 rfl rfl (by omega) (by omega)) ?_
 rintro _ _ ⟨b29,rfl,rfl⟩
 refine To.a (To.n (To.t (To.s ?_)))
 have hrl:(List.replicate n 0).length=n:=List.length_replicate
 have hr0:(List.replicate n 0)[0]?=some 0:=by rw[List.getElem?_replicate,if_pos (by omega)]
 refine To.g (To.m ?_)
 refine To.r (Rd.ixr (i:=0) (j:=0) rfl rfl rfl s22 rfl hr0) ?_
 refine To.u (Up.store (i:=0) rfl rfl rfl c5 rfl rfl (rows_takes encY_ok (y:=128) (by decide) (by omega))) ?_
 refine To.n (To.t (To.s ?_))
 obtain⟨E,hE⟩:∃E,E=(List.replicate n 0).set 0 128:=⟨_,rfl⟩
 rw[←hE]
 have hEl:E.length=n:=by rw[hE,List.length_set,List.length_replicate]
 refine To.sub [(0,pv hb),(2,pv b2),(3,pv b3),(6, .slice (some ⟨b29,0,none⟩) E.length (n+8))] ⟨rfl,rfl,rfl,(congrArg (fun z=>some (Value.slice (some ⟨b29,0,none⟩) z (n+8))) (by rw[hEl,List.length_replicate])),trivial⟩ ?_
 refine To.g (To.m ?_)
 refine To.m ?_
 refine To.nc ?_
 refine To.f fl297_2 ?_
 refine To.rdE rfl rfl rfl (RdE.cell (i:=1) rfl rfl c268 rfl hcs (by omega) rfl) (fun u36=>?_)
 refine To.rdE rfl rfl rfl (RdE.shl rfl rfl rfl (.inr (.inr rfl)) (by omega)) (fun u37=>?_)
 refine To.cQ rfl rfl rfl (Ent.fn rfl rfl ca167) (eight_fn u37) rfl (ocn _) ?_
 rintro _ _ ⟨b8,D8,rfl,rfl,hD8⟩
 refine⟨rfl,?_⟩
 refine To.ge rfl rfl rfl (Ge.appendL encY_ok (i:=1) (m:=D8) rfl s22 rfl rfl rfl (src_row (i:=0) rfl) (by first|omega|(simp;done)|(simp;omega)) (by first|omega|(simp;done)|(simp;omega))) ?_
 rintro _ _ ⟨A39,q39,rfl,rfl⟩
 refine To.cap 1 rfl (fun hqw=>?_)
 refine To.up1 ?_
 refine To.layRow ?_
 refine To.cl [4,4,0] rfl rfl rfl (Ent.fn rfl rfl ca111) rfl (write0_fn b3 cs hcs A39 q39 (E++D8) hqw) ?_
 rintro _ _ ⟨cs3,rfl,rfl,hcs3⟩
 refine To.n (To.t (To.s (To.g ?_)))
 refine To.alloc rfl rfl rfl rfl z96 (fun b7=>?_)
 refine To.n (To.t (To.s (To.s (To.g ?_))))
 refine To.f fl297_0 ?_
 obtain⟨a0,ha0⟩:=hcs3.at (i:=0) (k:= .u32) (by decide) rfl
 obtain⟨a1,ha1⟩:=hcs3.at (i:=1) (k:= .u32) (by decide) rfl
 obtain⟨a2,ha2⟩:=hcs3.at (i:=2) (k:= .u32) (by decide) rfl
 obtain⟨a3,ha3⟩:=hcs3.at (i:=3) (k:= .u32) (by decide) rfl
 obtain⟨a4,ha4⟩:=hcs3.at (i:=4) (k:= .u32) (by decide) rfl
 obtain⟨a5,ha5⟩:=hcs3.at (i:=5) (k:= .u32) (by decide) rfl
 obtain⟨a6,ha6⟩:=hcs3.at (i:=6) (k:= .u32) (by decide) rfl
 obtain⟨a7,ha7⟩:=hcs3.at (i:=7) (k:= .u32) (by decide) rfl
 refine To.r (Rd.lS (i:=1) (us:=[.int .u32 ((a0:Nat):Int), .int .u32 ((a1:Nat):Int), .int .u32 ((a2:Nat):Int), .int .u32 ((a3:Nat):Int), .int .u32 ((a4:Nat):Int), .int .u32 ((a5:Nat):Int), .int .u32 ((a6:Nat):Int), .int .u32 ((a7:Nat):Int)]) rfl rfl r294 rfl (box_gives (n:=8) (sub8 ha0 ha1 ha2 ha3 ha4 ha5 ha6 ha7)) rfl) ?_
 refine To.m (To.n (To.t (To.b ?_)))
 refine To.sub [(2,pv b2),(7,pv b7),(42, .agg #[.int .u32 ((a0:Nat):Int), .int .u32 ((a1:Nat):Int), .int .u32 ((a2:Nat):Int), .int .u32 ((a3:Nat):Int), .int .u32 ((a4:Nat):Int), .int .u32 ((a5:Nat):Int), .int .u32 ((a6:Nat):Int), .int .u32 ((a7:Nat):Int)]),(43,nv 0)] ⟨rfl,rfl,rfl,rfl,trivial⟩ ?_
 refine To.del3 (To.del2 (To.del1 (To.up1 ?_)))
 refine To.loop (fun mz ρ Γ=>∃(ds:List Value) (j:Nat),ρ=[(2,pv b2),(7,pv b7),(42, .agg #[.int .u32 ((a0:Nat):Int), .int .u32 ((a1:Nat):Int), .int .u32 ((a2:Nat):Int), .int .u32 ((a3:Nat):Int), .int .u32 ((a4:Nat):Int), .int .u32 ((a5:Nat):Int), .int .u32 ((a6:Nat):Int), .int .u32 ((a7:Nat):Int)]),(43,nv j)]∧Γ=[box b2 [.int .u8 0, .int .u8 0, .int .u8 0, .int .u8 0, .int .u8 0, .int .u8 0, .int .u8 0, .int .u8 0, .int .u8 0, .int .u8 0, .int .u8 0, .int .u8 0, .int .u8 0, .int .u8 0, .int .u8 0, .int .u8 0, .int .u8 0, .int .u8 0, .int .u8 0, .int .u8 0, .int .u8 0, .int .u8 0, .int .u8 0, .int .u8 0, .int .u8 0, .int .u8 0, .int .u8 0, .int .u8 0, .int .u8 0, .int .u8 0, .int .u8 0, .int .u8 0] 96,box b7 ds 96]∧mz=8-j∧(j≤8)∧(ShK (fun _=> .u8) 32 ds)) (8-0) ⟨(List.replicate 32 (.int .u8 0)),0,rfl,rfl,rfl,(Nat.zero_le _),(ShK.rep .u8 32)⟩ ?_
 rintro mz _ _ ⟨ds,j,rfl,rfl,rfl,hj,hds⟩
 refine To.s (To.g ?_)
 refine To.lt ?_
 refine To.n (To.t (To.s ?_))
 refine To.cp rfl (fun k44=>?_) (fun k44=>?_)
 refine To.sp (To.t (To.s (To.b (To.s (To.g (To.m ?_))))))
 refine To.rdE rfl rfl rfl (RdE.indexV rfl Tryz.underlying294 Tryz.underlying282 (by kernel_rfl) rfl rfl (by omega) (sh8 a0 a1 a2 a3 a4 a5 a6 a7)) (fun u46=>?_)
 refine To.a ?_
 refine To.a (To.n (To.t (To.g ?_)))
 refine To.m ?_
 refine To.r (Rd.as (v':=nv (4*j)) (congrArg (Value.int .i64) (by omega)) (Rd.mul64 (m:=4) (n:=((j:Nat):Int)) rfl rfl rfl (by omega))) ?_
 refine To.m ?_
 refine To.r (Rd.as (v':=nv (4*j)) (congrArg (Value.int .i64) (by omega)) (Rd.mul64 (m:=4) (n:=((j:Nat):Int)) rfl rfl rfl (by omega))) ?_
 refine To.r (Rd.addN (a:=(4*j)) (b:=1) rfl rfl rfl (by omega)) ?_
 refine To.m ?_
 refine To.r (Rd.as (v':=nv (4*j)) (congrArg (Value.int .i64) (by omega)) (Rd.mul64 (m:=4) (n:=((j:Nat):Int)) rfl rfl rfl (by omega))) ?_
 refine To.r (Rd.addN (a:=(4*j)) (b:=2) rfl rfl rfl (by omega)) ?_
 refine To.m ?_
 refine To.r (Rd.as (v':=nv (4*j)) (congrArg (Value.int .i64) (by omega)) (Rd.mul64 (m:=4) (n:=((j:Nat):Int)) rfl rfl rfl (by omega))) ?_
 refine To.r (Rd.addN (a:=(4*j)) (b:=3) rfl rfl rfl (by omega)) ?_
 refine To.m ?_
 refine To.rdE rfl rfl rfl (RdE.shr rfl rfl rfl (by omega)) (fun u59=>?_)
 refine To.rdE rfl rfl rfl (RdE.conv rfl rfl Tryz.underlying282 Tryz.underlying5 (.inl rfl)) (fun u60=>?_)
 refine To.m ?_
 refine To.rdE rfl rfl rfl (RdE.shr rfl rfl rfl (by omega)) (fun u62=>?_)
 refine To.rdE rfl rfl rfl (RdE.conv rfl rfl Tryz.underlying282 Tryz.underlying5 (.inl rfl)) (fun u63=>?_)
 refine To.m ?_
 refine To.rdE rfl rfl rfl (RdE.shr rfl rfl rfl (by omega)) (fun u65=>?_)
 refine To.rdE rfl rfl rfl (RdE.conv rfl rfl Tryz.underlying282 Tryz.underlying5 (.inl rfl)) (fun u66=>?_)
 refine To.m ?_
 refine To.rdE rfl rfl rfl (RdE.conv rfl rfl Tryz.underlying282 Tryz.underlying5 (.inl rfl)) (fun u68=>?_)
 refine To.r (Rd.indexArr (j:=(4*j)) rfl (ArrTy.of (size:=1) Tryz.underlying96 (by kernel_rfl)) rfl rfl (by omega)) ?_
 refine To.u (Up.store (i:=1) rfl rfl rfl c5 rfl rfl (box_takesK (by simp only[List.length_set,hds.1];omega))) ?_
 refine To.r (Rd.indexArr (j:=(4*j+1)) rfl (ArrTy.of (size:=1) Tryz.underlying96 (by kernel_rfl)) rfl rfl (by omega)) ?_
 refine To.u (Up.store (i:=1) rfl rfl rfl c5 rfl rfl (box_takesK (by simp only[List.length_set,hds.1];omega))) ?_
 refine To.r (Rd.indexArr (j:=(4*j+2)) rfl (ArrTy.of (size:=1) Tryz.underlying96 (by kernel_rfl)) rfl rfl (by omega)) ?_
 refine To.u (Up.store (i:=1) rfl rfl rfl c5 rfl rfl (box_takesK (by simp only[List.length_set,hds.1];omega))) ?_
 refine To.r (Rd.indexArr (j:=(4*j+3)) rfl (ArrTy.of (size:=1) Tryz.underlying96 (by kernel_rfl)) rfl rfl (by omega)) ?_
 refine To.u (Up.store (i:=1) rfl rfl rfl c5 rfl rfl (box_takesK (by simp only[List.length_set,hds.1];omega))) ?_
 refine To.n (To.bn (To.t (To.g ?_)))
 refine To.r (Rd.addN (a:=j) (b:=1) rfl rfl rfl (by omega)) ?_
 refine To.m (To.n (To.t ?_))
 refine To.sub [(2,pv b2),(7,pv b7),(42, .agg #[.int .u32 ((a0:Nat):Int), .int .u32 ((a1:Nat):Int), .int .u32 ((a2:Nat):Int), .int .u32 ((a3:Nat):Int), .int .u32 ((a4:Nat):Int), .int .u32 ((a5:Nat):Int), .int .u32 ((a6:Nat):Int), .int .u32 ((a7:Nat):Int)]),(43,nv ((j+1)))] ⟨rfl,rfl,rfl,rfl,trivial⟩ ?_
 refine To.ag (8-(j+1)) (by omega) ⟨((((ds.set (0+(4*j)*1) (.int .u8 ((u60:Nat):Int))).set (0+(4*j+1)*1) (.int .u8 ((u63:Nat):Int))).set (0+(4*j+2)*1) (.int .u8 ((u66:Nat):Int))).set (0+(4*j+3)*1) (.int .u8 ((u68:Nat):Int))),j+1,rfl,rfl,rfl,(by omega),((((hds.set rfl).set rfl).set rfl).set rfl)⟩
 refine To.ex (To.tx (To.tx (To.bx (To.t (To.s ?_)))))
 obtain⟨f,rfl⟩:=hds.fn
 refine To.g ?_
 refine To.r (Rd.lS (i:=1) (us:=idL f) rfl rfl r96 rfl box_whole rfl) ?_
 refine To.u (Up.storeS (i:=0) (us:=idL f) rfl rfl rfl r96 rfl rfl rfl (bta rfl)) ?_
 refine To.n (To.t (To.rt ?_))
 refine To.endC [] rfl (.inl rfl) Tryz.results112 rfl (i:=0) rfl r96 rfl ?_
 exact⟨f,rfl,rfl⟩
theorem hnew_fn:
    Does Tryz.prog 110 [] [] (fun v Γ'=>∃(b:Nat) (cs:List Value),v=pv b∧Γ'=[box b cs 297]∧ShK kdH 73 cs):=by
 refine Does.enter Tryz.func110 rfl Tryz.ntmps110 rfl (fun w0=>?_)
 refine To.s (To.g (To.a (To.n (To.t (To.s (To.g ?_))))))
 refine To.r (Rd.build (vs:=[(0, .int .u32 1779033703),(1, .int .u32 3144134277),(2, .int .u32 1013904242),(3, .int .u32 2773480762),(4, .int .u32 1359893119),(5, .int .u32 2600822924),(6, .int .u32 528734635),(7, .int .u32 1541459225)]) (cells:=[.int .u32 1779033703, .int .u32 3144134277, .int .u32 1013904242, .int .u32 2773480762, .int .u32 1359893119, .int .u32 2600822924, .int .u32 528734635, .int .u32 1541459225]) rfl rfl rfl (by kernel_rfl)) ?_
 refine To.r (Rd.build (vs:=[(0, .agg #[.int .u32 1779033703, .int .u32 3144134277, .int .u32 1013904242, .int .u32 2773480762, .int .u32 1359893119, .int .u32 2600822924, .int .u32 528734635, .int .u32 1541459225])]) (cells:=[.int .u32 1779033703, .int .u32 3144134277, .int .u32 1013904242, .int .u32 2773480762, .int .u32 1359893119, .int .u32 2600822924, .int .u32 528734635, .int .u32 1541459225, .int .u8 0, .int .u8 0, .int .u8 0, .int .u8 0, .int .u8 0, .int .u8 0, .int .u8 0, .int .u8 0, .int .u8 0, .int .u8 0, .int .u8 0, .int .u8 0, .int .u8 0, .int .u8 0, .int .u8 0, .int .u8 0, .int .u8 0, .int .u8 0, .int .u8 0, .int .u8 0, .int .u8 0, .int .u8 0, .int .u8 0, .int .u8 0, .int .u8 0, .int .u8 0, .int .u8 0, .int .u8 0, .int .u8 0, .int .u8 0, .int .u8 0, .int .u8 0, .int .u8 0, .int .u8 0, .int .u8 0, .int .u8 0, .int .u8 0, .int .u8 0, .int .u8 0, .int .u8 0, .int .u8 0, .int .u8 0, .int .u8 0, .int .u8 0, .int .u8 0, .int .u8 0, .int .u8 0, .int .u8 0, .int .u8 0, .int .u8 0, .int .u8 0, .int .u8 0, .int .u8 0, .int .u8 0, .int .u8 0, .int .u8 0, .int .u8 0, .int .u8 0, .int .u8 0, .int .u8 0, .int .u8 0, .int .u8 0, .int .u8 0, .int .u8 0, .int .u64 0]) rfl rfl rfl (by kernel_rfl)) ?_
 refine To.boxed rfl rfl rfl rfl rfl rfl (fun b3=>?_)
 refine To.a (To.n (To.t (To.rt ?_)))
 refine To.end1 (.inl rfl) Tryz.results110 rfl ?_
 exact⟨_,_,rfl,rfl,hash0 [1779033703,3144134277,1013904242,2773480762,1359893119,2600822924,528734635,1541459225] rfl⟩
theorem sum_fn(A:Option Addr)(q:Nat)(l:List Nat)(hq:l.length≤q):
    Does Tryz.prog 76 [.slice A l.length q] [ros encY A l,cstC] (fun v Γ'=>∃f:Nat→Nat,v= .agg (idL f).toArray∧Γ'=[]):=by
 refine Does.enter Tryz.func76 rfl Tryz.ntmps76 rfl (fun w0=>?_)
 refine To.s (To.g ?_)
 refine To.alloc rfl rfl rfl rfl z96 (fun b2=>?_)
 refine To.n (To.t (To.s (To.g ?_)))
 refine To.cQ rfl rfl rfl (Ent.fn rfl rfl ca110) (hnew_fn) rfl (ocn _) ?_
 rintro _ _ ⟨hb,cs,rfl,rfl,hcs⟩
 refine⟨rfl,?_⟩
 refine To.a (To.n (To.t (To.s (To.g ?_))))
 refine To.m ?_
 refine To.m ?_
 refine To.dup 3 rfl rfl ?_
 refine To.cl [1,0,1] rfl rfl rfl (Ent.fn rfl rfl ca111) rfl (write0_fn hb cs hcs A q l hq) ?_
 rintro _ _ ⟨cs2,rfl,rfl,hcs2⟩
 refine To.n (To.t (To.s (To.g (To.m ?_))))
 refine To.cl [0,1] rfl rfl rfl (Ent.fn rfl rfl ca112) rfl (hsum_fn hb cs2 hcs2) ?_
 rintro _ _ ⟨f,rfl,rfl⟩
 refine To.u (Up.storeS (i:=0) (us:=idL f) rfl rfl rfl r96 rfl rfl rfl (bta rfl)) ?_
 refine To.n (To.t (To.rt ?_))
 refine To.endC [] rfl (.inl rfl) Tryz.results76 rfl (i:=0) rfl r96 rfl ?_
 exact⟨f,rfl,rfl⟩
end Go.Proofs.YtihgdnjkofpgiaaGreatDoor

/- Own text. -/
import Derived.Test.YtllalpnmagpkfaaGreatDoorNb
import Derived.Test.YtllalpnmagpkfaaGreatDoorA19
import Derived.Test.YtllalpnmagpkfaaGreatDoorC10
set_option maxHeartbeats 8000000
set_option maxRecDepth 100000
set_option linter.unusedVariables false
set_option linter.unusedSimpArgs false
namespace Go.Proofs.YtllalpnmagpkfaaGreatDoor
open Go.Proofs.Tryz
open Go.RowKit Go.Flow Go.Mem Go.Sep Go.In
theorem phand_any{F:Fl}{ps:List PP}(b:Nat)(A:OA)(q:Nat)(hP:ProgOk F ps)(hG:GoodF F.pure)(x:Int):
    Dz 27 [pv b, .int .i64 x] [all (pgk b A q ps)] (fun v Γ'=>∃(B:OA) (r:Nat) (l:List ByteArray),v=vs B l r∧Γ'=[rows encZ 9 1 B r l]∧(decide ((0:Int)<((l.length:Nat):Int)))=((decide (0≤x))&&(decide (x<((F.comps.length:Nat):Int))))):=by
 have hX:=goodX hG
 have hpl:ps.length≤12:=by rw[hP.len];have:=hX.comps;omega
 by_cases hx:x<0∨(F.comps.length:Int)≤x
 · have h:=phandX_fn b A q ps x (by rw[hP.len];exact hx)
   refine(Does.nilR (enc:=encZ) (e:=9) (size:=1) h).mono fun r Γ' ⟨h1,h2⟩=>⟨none,0,[],h1,h2,?_⟩
   rw[←Bool.decide_and];exact decide_eq_decide.2 ⟨fun h=>absurd h (by decide),fun h=>by omega⟩
 · obtain⟨k,rfl⟩:∃k:Nat,x=(k:Int):=⟨x.toNat,by omega⟩
   obtain⟨c,hc⟩:∃c,F.comps[k]?=some c:=⟨_,gge om⟩
   obtain⟨p,hp,hpo⟩:=prog_at hP hc
   obtain⟨nn,hnm,hnn,hW⟩:=names_le hG hc hpo
   have hnl:p.names.length=nn:=by rw[hnm,nms_len]
   have hnn1:1≤nn:=by
    obtain⟨v0,hv0⟩:∃v0,c.vers[0]?=some v0:=⟨_,gge ((hX.comp c (mog hc)).vers1)⟩
    obtain⟨ct,ar,ok⟩:=hG.okC (pure_comp hc)
    have gv:=(ok.vers v0.pure (List.mem_map.2 ⟨v0,mog hv0,rfl⟩)).1
    have hpl:v0.pure.length=v0.l.length:=List.length_map ..
    have:=(hW.each v0 (mog hv0) 0 _ (gge om)).2
    omega
   refine(phand_fn b A q ps k p hp om om).mono fun r Γ' ⟨B,rr,h1,h2⟩=>⟨B,rr,p.names,h1,h2,?_⟩
   rw[←Bool.decide_and];exact decide_eq_decide.2 ⟨fun _=>by omega,fun _=>by omega⟩
theorem handlers_ok(p:Pl)(hp:p.Ok)(a0 a1 a2:Int):
    Dz 6 [.agg (cL p []).toArray, .agg #[.int .i64 a0, .int .i64 a1, .int .i64 a2]] [all p.kids,glc,p10c,tabC] (fun v _=>v= .bool true):=by
 refine Does.en func6 ntmps6 fun w0=>?_
 refine Js (To.g (Jbo fun b2=>?_))
 refine Jbo fun b3=>?_
 refine Jz 6 ?_
 refine Jvf (awake_fn) rfl (oks_gl 3 rfl) ?_
 refine Jz 9 ?_
 refine Jcf [2,2,2,2] (made_fn p hp) ?_
 rintro _ _ ⟨F,F',b,A,q,ps,rfl,rfl,hG,hpu,hP⟩
 refine Jz 3 ?_
 refine Jal fun b6=>?_
 refine Jz 6 ?_
 have hG':GoodF F'.pure:=by rw[hpu];exact hG
 have hX:=goodX hG
 have hFc:=hX.comps
 refine Jz 2 ?_
 refine Jr (Rd.eqlNil rfl underlying27 rfl rfl) ?_
 refine Jz 7 ?_
 have hcp:F.comps.map Cm.pure=F'.comps.map Cm.pure:=congrArg PF.comps hpu.symm
 have hlen:F.comps.length=F'.comps.length:=by have h:=congrArg List.length hcp;rw[List.length_map,List.length_map]at h;exact h
 have hB:=bndF_of hG
 have hXp:=goodX hG'
 have hpsl:=hP.len
 refine To.one 2 rfl (ros encC F.Ac F.comps) rfl (fl_comps F) (Jz 8 ?_)
 refine To.loP (fun s g mz ρ Γ=>∃(i:Nat),ρ=[s 3,s 5,s 6,s 30,s 31,(32,nv i)]∧Γ=[g 2,g 3,g 0,g 4,g 1]∧mz=F.comps.length-i∧(i≤F.comps.length)) ⟨⟨0,rfl,rfl,rfl,(Nat.zero_le _)⟩,sb⟩ ?_
 rintro mz _ _ ⟨i,rfl,rfl,rfl,hi⟩
 refine Jz 6 ?_
 refine Jcp rfl ?_ ?_<;>intro k33
 obtain⟨x,hx⟩:=exg F.comps i om
 obtain⟨c,hc,hcx⟩:=map_at hcp hx
 obtain⟨pp,hpp,hpo⟩:=prog_at hP hc
 obtain⟨nn,hnm,hnn,hW⟩:=names_le hG' hc hpo
 have hnl:pp.names.length=nn:=by rw[hnm,nms_len]
 have hvx:c.vers.map Vs.pure=x.vers.map Vs.pure:=congrArg PC.vers hcx
 have hcb:=hB.each x (mog hx)
 have hc3:=phand_fn b A q ps i pp hpp om om
 have hc4:=handlersN_fn x hcb.2.1 hcb.2.2
 rw[hpo.names,hvx]at hc3
 rw[hpo.names,hvx]at hnl
 obtain⟨L,hL⟩:∃L,hnames (x.vers.map Vs.pure)=L:=⟨_,rfl⟩
 rw[hL]at hc3 hc4 hnl
 refine Jz 9 ?_
 refine Jal fun b8=>?_
 refine Jz 5 ?_
 refine Jpart 2 rfl (x.kids eR) (x.lax eR) (fun z hz=>fl_cm hx hz) (Jflow [box b8 (cX x []) 103] [⟨0,[],0⟩,⟨1,[],0⟩,⟨3,[],0⟩,⟨2,[],4⟩,⟨4,[2],4⟩,⟨5,[2,4],0⟩,⟨6,[2,4],0⟩] mixed.h (by kernel_rfl) (ocs (oca 1 rfl) (ocn _)) (Jz 3 ?_))
 refine Fw.callM rfl rfl rfl rfl rfl .fc (hc3) (by show owns (pgk b A q ps)++[]=[];rw[(pgk_lax b A q ps).owns];rfl) (ocs (oca 2 rfl) (ocn _)) ?_
 rintro _ _ ⟨Bh,rh,rfl,rfl⟩
 refine⟨rfl,?_⟩
 refine Fw.callM rfl rfl rfl rfl rfl .fc (hc4) (by show owns (x.kids eR)++[]=[];rw[(x.lax eR).owns];rfl) (ocs (oca 1 rfl) (ocn _)) ?_
 rintro _ _ ⟨Br,rr,rfl,rfl⟩
 refine⟨rfl,?_⟩
 refine Jz 14 ?_
 refine Jcp rfl ?_ ?_<;>intro k46
 exact absurd rfl k46
 refine Jz 10 ?_
 refine To.loP (fun s g mz ρ Γ=>∃(j:Nat),ρ=[s 3,s 5,s 6,s 30,s 31,s 32,s 9,s 10,s 48,(49,nv j)]∧Γ=[g 4,g 5,g 6,g 7,g 8,g 1,g 0]∧mz=L.length-j∧(j≤L.length)) ⟨⟨0,rfl,rfl,rfl,(Nat.zero_le _)⟩,sb⟩ ?_
 rintro mz _ _ ⟨j,rfl,rfl,rfl,hj⟩
 refine Jz 6 ?_
 refine Jcp rfl ?_ ?_<;>intro k50
 obtain⟨w,hw⟩:=exg L j om
 refine Jz 11 ?_
 refine Jfw [] [0,1,4,5,102,103,106,107,8] (ocn _) ?_
 refine Jz 8 ?_
 refine Fw.f rfl (Rd.neqZ rfl rfl rfl) ?_
 refine Jz 2 ?_
 refine Jcp rfl ?_ ?_<;>intro k60
 exact absurd rfl k60
 refine Jz 8 ?_
 refine To.agT ⟨⟨j+1,rfl,rfl,rfl,om⟩,sb⟩
 refine Jz 11 ?_
 refine To.agP ⟨⟨i+1,rfl,rfl,rfl,om⟩,sb⟩
 refine Jz 6 ?_
 obtain⟨U,hU⟩:∃U,UU F a0 a1 a2=U:=⟨_,rfl⟩
 have hc1:=rcompile_any (F:=F) hG a0 a1 a2
 have hc2:=punit_any b A q hP hG' a0 a1 a2
 have hlo:=UU_low hG a0 a1 a2
 rw[UU_pure hpu,hU]at hc2
 rw[hU]at hc1 hlo
 have hUl:=hlo.1
 have hUo:=hlo.2
 refine Jz 2 ?_
 refine Jr (Rd.indexArr (j:=0) rfl (ArrTy.of (size:=1) underlying99 (by kernel_rfl)) rfl rfl (by decide)) ?_
 refine Jz 1 ?_
 refine Jr (Rd.indexArr (j:=1) rfl (ArrTy.of (size:=1) underlying99 (by kernel_rfl)) rfl rfl (by decide)) ?_
 refine Jz 1 ?_
 refine Jr (Rd.indexArr (j:=2) rfl (ArrTy.of (size:=1) underlying99 (by kernel_rfl)) rfl rfl (by decide)) ?_
 refine Jz 1 ?_
 refine Jqf (hc1) (by show owns (F.kids eR)++[]=[];rw[(Fl.lax eR F).owns];rfl) (ocs (oca 1 rfl) (ocn _)) ?_
 rintro _ _ ⟨Ar,qr,rfl,rfl⟩
 refine⟨rfl,?_⟩
 refine Jz 3 ?_
 refine Jal fun b12=>?_
 refine Jz 7 ?_
 refine Jr (Rd.indexArr (j:=0) rfl (ArrTy.of (size:=1) underlying99 (by kernel_rfl)) rfl rfl (by decide)) ?_
 refine Jz 1 ?_
 refine Jr (Rd.indexArr (j:=1) rfl (ArrTy.of (size:=1) underlying99 (by kernel_rfl)) rfl rfl (by decide)) ?_
 refine Jz 1 ?_
 refine Jr (Rd.indexArr (j:=2) rfl (ArrTy.of (size:=1) underlying99 (by kernel_rfl)) rfl rfl (by decide)) ?_
 refine Jz 1 ?_
 refine Jqf (hc2) (by show owns (pgk b A q ps)++[]=[];rw[(pgk_lax b A q ps).owns];rfl) (ocs (oca 2 rfl) (ocn _)) ?_
 rintro _ _ ⟨Bu,ru,rfl,rfl⟩
 refine⟨rfl,?_⟩
 refine Jz 3 ?_
 refine Jal fun b14=>?_
 refine Jz 12 ?_
 refine Jqf (punit0_fn) rfl (ocn _) ?_
 rintro _ _ ⟨rfl,rfl⟩
 refine⟨rfl,?_⟩
 refine Jz 3 ?_
 refine Jal fun b17=>?_
 refine Jz 6 ?_
 refine To.mt [3,5,6,12,13,14,15,16,18] 19 ((decide (0≤a0))&&(decide (a0<((F.comps.length:Nat):Int)))) ?_ ?_
 refine Jr (Rd.indexArr (j:=0) rfl (ArrTy.of (size:=1) underlying99 (by kernel_rfl)) rfl rfl (by decide)) ?_
 refine Jz 2 ?_
 refine JgP ?_ ?_<;>intro g93
 refine Jr (Rd.indexArr (j:=0) rfl (ArrTy.of (size:=1) underlying99 (by kernel_rfl)) rfl rfl (by decide)) ?_
 refine Jz 9 ?_
 refine To.mh rfl (by simp[g93])
 refine Jz 10 ?_
 refine To.mh rfl (by simp[g93])
 refine Js (Jflow [box b14 [nv U.np, .int .i64 U.st,vs Bu U.l ru] 42,box b12 [nv U.np, .int .i64 U.st,vs Ar U.l qr] 37,box b3 [.int .i64 a0, .int .i64 a1, .int .i64 a2] 99] [⟨0,[],0⟩,⟨1,[],0⟩,⟨2,[],0⟩,⟨3,[],0⟩,⟨4,[],0⟩,⟨5,[],0⟩,⟨6,[],4⟩,⟨7,[6],3⟩,⟨8,[6],0⟩,⟨9,[6],0⟩,⟨10,[6],0⟩,⟨11,[6],0⟩,⟨12,[6],0⟩,⟨13,[6],0⟩,⟨14,[6],0⟩,⟨15,[6],4⟩,⟨16,[6,15],0⟩,⟨17,[6,15],0⟩,⟨18,[6,15],0⟩,⟨19,[6,15],0⟩,⟨20,[6,15],0⟩,⟨26,[6,15],0⟩,⟨21,[6,15],1⟩,⟨22,[6,15],0⟩,⟨23,[6,15],4⟩,⟨24,[6,15,23],0⟩,⟨25,[6,15,23],0⟩,⟨27,[6,15,23],0⟩,⟨28,[6,15,23],0⟩,⟨29,[6,15,23],0⟩] mixed.h (by kernel_rfl) (ocs (oca 1 rfl) (ocs (oca 3 rfl) (ocs (oca 8 rfl) (ocn _)))) (Jz 2 ?_))
 refine Fw.f rfl (Rd.as (v':= .bool true) (congrArg Value.bool (beq_self_eq_true _)) (Rd.eqlB rfl underlying4 rfl rfl)) ?_
 refine Jz 3 ?_
 refine Fw.callMG rfl rfl rfl rfl rfl .fc (back_fn ((U.np:Nat):Int) U.st Ar qr U.l om hUo) rfl (ocs (oks_row 4 rfl) (ocn _)) ?_
 rintro _ _ ⟨Bk,rk,rfl,rfl⟩
 refine⟨rfl,?_⟩
 refine Fw.qf (same_fn ((U.np:Nat):Int) U.st Bu Bk ru rk U.l om) (ocs (oks_row 3 rfl) (ocs (oks_row 0 rfl) (ocn _))) ?_
 refine Jz 7 ?_
 refine Fw.callMG rfl rfl rfl rfl rfl .fc (phand0_fn) rfl (ocn _) ?_
 rintro _ _ ⟨rfl,rfl⟩
 refine⟨rfl,?_⟩
 refine Jz 6 ?_
 refine Fw.r rfl (Rd.indexArr (j:=0) rfl (ArrTy.of (size:=1) underlying99 (by kernel_rfl)) rfl rfl (by decide)) ?_
 refine Jz 1 ?_
 refine Fw.callMG rfl rfl rfl rfl rfl .fc (phand_any b A q hP hG' a0) (by show owns (pgk b A q ps)++[]=[];rw[(pgk_lax b A q ps).owns];rfl) (ocs (oca 6 rfl) (ocn _)) ?_
 rintro _ _ ⟨Bz,rz,lz,rfl,rfl,hz⟩
 refine⟨rfl,?_⟩
 rw[←hlen]at hz
 refine Jz 2 ?_
 refine Fw.f rfl (Rd.as (v':= .bool true) (congrArg Value.bool (by rw[hz];exact beq_self_eq_true _)) (Rd.eqlB rfl underlying4 rfl rfl)) ?_
 refine Jz 5 ?_
 refine Jdel11 (Jdel10 (Jdel9 (Jdel8 (Jdel7 (Jdel6 (Jdel5 (Jdel4 (Jdel3 (Jdel2 (Jdel1 (Jdel0 (Je1 results6 ?_))))))))))))
 rfl
end Go.Proofs.YtllalpnmagpkfaaGreatDoor

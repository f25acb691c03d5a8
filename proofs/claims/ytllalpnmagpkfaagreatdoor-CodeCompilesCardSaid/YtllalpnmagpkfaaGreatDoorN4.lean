/- Own text. -/
import Derived.Test.YtllalpnmagpkfaaGreatDoorNb
import Derived.Test.YtllalpnmagpkfaaGreatDoorA19
import Derived.Test.YtllalpnmagpkfaaGreatDoorC10
set_option maxHeartbeats 8000000
set_option maxRecDepth 100000
set_option linter.unusedVariables false
set_option linter.unusedSimpArgs false
namespace Go.Proofs.YtllalpnmagpkfaaGreatDoor
open Go.Proofs.Tryz
open Go.RowKit Go.Flow Go.Mem Go.Sep Go.In
theorem compiles_fn(p:Pl)(hp:p.Ok):
    Dz 3 [.agg (cL p []).toArray] [all p.kids,glc,p10c,tabC] (fun v _=>v= .bool true):=by
 refine Does.en func3 ntmps3 fun w0=>?_
 refine Js (To.g (Jbo fun b1=>?_))
 refine Jz 6 ?_
 refine Jvf (awake_fn) rfl (oks_gl 2 rfl) ?_
 refine Jz 9 ?_
 refine Jcf [1,1,1,1] (made_fn p hp) ?_
 rintro _ _ ⟨F,F',b,A,q,ps,rfl,rfl,hG,hpu,hP⟩
 refine Jz 3 ?_
 refine Jal fun b4=>?_
 refine Jz 6 ?_
 have hG':GoodF F'.pure:=by rw[hpu];exact hG
 have hX:=goodX hG
 have hFc:=hX.comps
 refine Jz 2 ?_
 refine Jr (Rd.eqlNil rfl underlying27 rfl rfl) ?_
 refine Jz 16 ?_
 refine To.loP (fun s g mz ρ Γ=>∃(i:Nat),ρ=[s 3,s 4,s 24,(25,nv i)]∧Γ=[g 1,g 2,g 0]∧mz=F.comps.length+1-i∧(i≤F.comps.length+1)) ⟨⟨0,rfl,rfl,rfl,(Nat.zero_le _)⟩,sb⟩ ?_
 rintro mz _ _ ⟨i,rfl,rfl,rfl,hi⟩
 refine Jz 6 ?_
 refine Jcp rfl ?_ ?_<;>intro k26
 refine Jz 16 ?_
 refine To.loG (fun s g mz ρ Γ=>∃(v:Nat),ρ=[s 3,s 4,s 24,s 25,s 5,(28,nv v)]∧Γ=[g 0,g 1,g 2]∧mz=5-v∧(v≤5)) ⟨⟨0,rfl,rfl,rfl,(Nat.zero_le _)⟩,sb⟩ ?_
 rintro mz _ _ ⟨v,rfl,rfl,rfl,hv⟩
 refine Jz 6 ?_
 refine Jcp rfl ?_ ?_<;>intro k29
 refine Jz 16 ?_
 refine To.loG (fun s g mz ρ Γ=>∃(h:Nat),ρ=[s 3,s 4,s 24,s 25,s 5,s 28,s 6,(31,nv h)]∧Γ=[g 0,g 1,g 2]∧mz=5-h∧(h≤5)) ⟨⟨0,rfl,rfl,rfl,(Nat.zero_le _)⟩,sb⟩ ?_
 rintro mz _ _ ⟨h,rfl,rfl,rfl,hh⟩
 refine Jz 6 ?_
 refine Jcp rfl ?_ ?_<;>intro k32
 refine Jz 11 ?_
 obtain⟨U,hU⟩:∃U,UU F ((i:Nat):Int) ((v:Nat):Int) ((h:Nat):Int)=U:=⟨_,rfl⟩
 have hc1:=rcompile_any (F:=F) hG ((i:Nat):Int) ((v:Nat):Int) ((h:Nat):Int)
 have hc2:=punit_any b A q hP hG' ((i:Nat):Int) ((v:Nat):Int) ((h:Nat):Int)
 have hlo:=UU_low hG ((i:Nat):Int) ((v:Nat):Int) ((h:Nat):Int)
 rw[UU_pure hpu,hU]at hc2
 rw[hU]at hc1 hlo
 have hUl:=hlo.1
 have hUo:=hlo.2
 refine Jz 5 ?_
 refine Jqf (hc1) (by show owns (F.kids eR)++[]=[];rw[(Fl.lax eR F).owns];rfl) (ocs (oca 1 rfl) (ocn _)) ?_
 rintro _ _ ⟨Ar,qr,rfl,rfl⟩
 refine⟨rfl,?_⟩
 refine Jz 3 ?_
 refine Jal fun b8=>?_
 refine Jz 10 ?_
 refine Jqf (hc2) (by show owns (pgk b A q ps)++[]=[];rw[(pgk_lax b A q ps).owns];rfl) (ocs (oca 2 rfl) (ocn _)) ?_
 rintro _ _ ⟨Bu,ru,rfl,rfl⟩
 refine⟨rfl,?_⟩
 refine Jz 3 ?_
 refine Jal fun b10=>?_
 refine Jz 5 ?_
 refine Jfw [box b10 [nv U.np, .int .i64 U.st,vs Bu U.l ru] 42,box b8 [nv U.np, .int .i64 U.st,vs Ar U.l qr] 37] [0,1,2,3,4,5,406,7307,7008,7009] (ocs (oca 0 rfl) (ocs (oca 2 rfl) (ocn _))) ?_
 refine Jz 2 ?_
 refine Fw.f rfl (Rd.as (v':= .bool false) (congrArg Value.bool (by rw[beq_self_eq_true];rfl)) (Rd.neqB rfl underlying4 rfl rfl)) ?_
 refine Jz 3 ?_
 refine Fw.callMG rfl rfl rfl rfl rfl .fc (back_fn ((U.np:Nat):Int) U.st Ar qr U.l om hUo) rfl (ocs (oks_row 3 rfl) (ocn _)) ?_
 rintro _ _ ⟨Bk,rk,rfl,rfl⟩
 refine⟨rfl,?_⟩
 refine Fw.qf (same_fn ((U.np:Nat):Int) U.st Bu Bk ru rk U.l om) (ocs (oks_row 2 rfl) (ocs (oks_row 0 rfl) (ocn _))) ?_
 refine Jz 13 ?_
 refine To.agP ⟨⟨h+1,rfl,rfl,rfl,om⟩,sb⟩
 refine Jz 11 ?_
 refine To.agT ⟨⟨v+1,rfl,rfl,rfl,om⟩,sb⟩
 refine Jz 11 ?_
 refine To.agT ⟨⟨i+1,rfl,rfl,rfl,om⟩,sb⟩
 refine Jz 11 ?_
 refine Jdel2 (Jdel1 (Jdel0 (Je1 results3 ?_)))
 rfl
end Go.Proofs.YtllalpnmagpkfaaGreatDoor

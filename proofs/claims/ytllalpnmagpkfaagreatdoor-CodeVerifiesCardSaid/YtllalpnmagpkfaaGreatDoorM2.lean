/- CodeVerifies: the walk of the law. Own text (walks printed by sx.py). -/
import Derived.Test.YtllalpnmagpkfaaGreatDoorM2p
import Derived.Test.YtllalpnmagpkfaaGreatDoorA19
import Derived.Test.YtllalpnmagpkfaaGreatDoorC10
set_option maxHeartbeats 8000000
set_option maxRecDepth 100000
set_option linter.unusedVariables false
set_option linter.unusedSimpArgs false
namespace Go.Proofs.YtllalpnmagpkfaaGreatDoor
open Go.Proofs.Tryz
open Go.RowKit Go.Flow Go.Mem Go.Sep Go.In
theorem verifies_fn(p:Pl)(hp:p.Ok):
    Dz 9 [.agg (cL p []).toArray] [all p.kids,glc,p10c,tabC] (fun v _=>v= .bool true):=by
 refine Does.en func9 ntmps9 fun w0=>?_
 refine To.s (To.g (To.bo fun b1=>?_))
 refine To.z 6 ?_
 refine To.cV rfl rfl rfl (Ent.fn rfl rfl ca12) (awake_fn) rfl (oks_gl 2 rfl) (To.z 7 ?_)
 refine To.dup 4 rfl rfl (To.z 2 ?_)
 refine To.cl [2,2,2,0] rfl rfl rfl (Ent.fn rfl rfl ca13) rfl (made_fn p hp) ?_
 rintro _ _ ⟨F,F',b,A,q,ps,rfl,rfl,hG,hpu,hP⟩
 refine To.z 3 ?_
 refine To.al fun b4=>?_
 refine To.z 6 ?_
 have hG':GoodF F'.pure:=by rw[hpu];exact hG
 have hX:=goodX hG'
 have hFc:=hX.comps
 have hFc1:=hX.comps1
 have hlen:F.comps.length=F'.comps.length:=by
  have h1:(F'.comps.map Cm.pure).length=(F.comps.map Cm.pure).length:=congrArg (fun f:PF=>f.comps.length) hpu
  rw[List.length_map,List.length_map]at h1;exact h1.symm
 have hpsl:=hP.len
 refine To.z 2 ?_
 refine To.r (Rd.eqlNil rfl underlying27 rfl rfl) ?_
 refine To.z 20 ?_
 refine To.del3 (To.del2 (To.up2 (To.up2 (To.loopS (fun mz ρ Γ=>∃(n:Nat) (i:Nat),ρ=[(3,pv b),(4,pv b4),(5,nv n),(22,nv F.comps.length),(23,nv i)]∧Γ=[all (pgk b A q ps),tabC,box b4 (cF F []) 32]∧mz=F.comps.length-i∧(i≤F.comps.length)∧(n≤9*i)∧(0<i→1≤n)) (F.comps.length-0) ⟨⟨0,0,rfl,rfl,rfl,(Nat.zero_le _),(Nat.zero_le _),(fun h=>absurd h (by decide))⟩,sb⟩ ?_))))
 rintro mz _ _ ⟨n,i,rfl,rfl,rfl,hi,hn,hn0⟩
 refine To.z 6 ?_
 refine To.cp rfl (fun k24=>?_) (fun k24=>?_)
 obtain⟨c,hc⟩:∃c,F'.comps[i]?=some c:=⟨_,gge om⟩
 obtain⟨pp,hpp,hpo⟩:=prog_at hP hc
 obtain⟨nn,hnm,hnn,hW⟩:=names_le hG' hc hpo
 have hnl:pp.names.length=nn:=by rw[hnm,nms_len]
 have hnn1:1≤nn:=by
  obtain⟨v0,hv0⟩:∃v0,c.vers[0]?=some v0:=⟨_,gge ((hX.comp c (mog hc)).vers1)⟩
  obtain⟨ct,ar,ok⟩:=hG'.okC (pure_comp hc)
  have gv:=(ok.vers v0.pure (List.mem_map.2 ⟨v0,mog hv0,rfl⟩)).1
  have hpl:v0.pure.length=v0.l.length:=List.length_map ..
  have:=(hW.each v0 (mog hv0) 0 _ (gge om)).2
  omega
 refine To.z 14 ?_
 refine To.cQ rfl rfl rfl (Ent.fn rfl rfl ca27) (phand_fn b A q ps i pp hpp om om) (by show owns (pgk b A q ps)++[]=[];rw[(pgk_lax b A q ps).owns];rfl) (ocs (oca 0 rfl) (ocn _)) ?_
 rintro _ _ ⟨Bh,rh,rfl,rfl⟩
 refine⟨rfl,?_⟩
 refine To.z 5 ?_
 refine To.del0 (To.loopS (fun mz ρ Γ=>∃(n1:Nat) (h:Nat),ρ=[(3,pv b),(4,pv b4),(22,nv F.comps.length),(23,nv i),(5,nv n1),(6,nv i),(29,nv pp.names.length),(30,nv h)]∧Γ=[all (pgk b A q ps),tabC,box b4 (cF F []) 32]∧mz=pp.names.length-h∧(h≤pp.names.length)∧(n1≤9*i+3*h)∧(0<i∨0<h→1≤n1)) (pp.names.length-0) ⟨⟨n,0,rfl,rfl,rfl,(Nat.zero_le _),om,(fun h=>by omega)⟩,sb⟩ ?_)
 rintro mz _ _ ⟨n1,h,rfl,rfl,rfl,hh,hn1,hn10⟩
 refine To.z 6 ?_
 refine To.cp rfl (fun k31=>?_) (fun k31=>?_)
 obtain⟨s0,hs0⟩:∃s0,pp.names[h]?=some s0:=⟨_,gge om⟩
 rw[hpo.names]at hs0
 refine To.z 16 ?_
 refine To.loopS (fun mz ρ Γ=>∃(n2:Nat) (v:Nat),ρ=[(3,pv b),(4,pv b4),(22,nv F.comps.length),(23,nv i),(6,nv i),(29,nv pp.names.length),(30,nv h),(5,nv n2),(7,nv h),(8,nv v)]∧Γ=[all (pgk b A q ps),tabC,box b4 (cF F []) 32]∧mz=4-v∧(1≤v∧v≤4)∧(n2≤9*i+3*h+(v-1))∧(0<i∨0<h∨1<v→1≤n2)) (4-1) ⟨⟨n1,1,rfl,rfl,rfl,⟨Nat.le_refl _,by decide⟩,om,(fun h=>by omega)⟩,sb⟩ ?_
 rintro mz _ _ ⟨n2,v,rfl,rfl,rfl,hv,hn2,hn20⟩
 refine To.z 7 ?_
 refine To.cp rfl (fun k34=>?_) (fun k34=>?_)
 refine To.z 10 ?_
 refine To.cQ rfl rfl rfl (Ent.fn rfl rfl ca15) (punit_at b A q hP hG' hc hs0 v) (by show owns (pgk b A q ps)++[]=[];rw[(pgk_lax b A q ps).owns];rfl) (ocs (oca 0 rfl) (ocn _)) ?_
 rintro _ _ ⟨Bu,ru,rfl,rfl⟩
 refine⟨rfl,?_⟩
 refine To.z 3 ?_
 refine To.al fun b9=>?_
 refine To.z 9 ?_
 refine To.cond rfl (fun k45=>?_) (fun k45=>?_)
 refine To.z 10 ?_
 refine To.cV rfl rfl rfl (Ent.fn rfl rfl ca30) ((verify_fn (((pU F' c v s0).np:Nat):Int) (pU F' c v s0).st Bu ru (pU F' c v s0).l).mono (R':=fun v _=>v= .int .i64 0) (fun v _ h=>by rw[h,pU_ver hG' hc (by simpa using k45)])) rfl (ocs (oks_row 1 rfl) (ocs (oca 3 rfl) (ocn _))) (To.z 13 ?_)
 refine To.del1 (To.del0 (To.agS (4-(v+1)) om ⟨⟨n2+1,v+1,rfl,rfl,rfl,om,om,(fun hx=>by omega)⟩,sb⟩))
 refine To.z 9 ?_
 refine To.sub [(3,pv b),(4,pv b4),(22,nv F.comps.length),(23,nv i),(6,nv i),(29,nv pp.names.length),(30,nv h),(5,nv n2),(7,nv h),(8,nv ((v+1)))] sb (To.del1 (To.del0 ?_))
 refine To.ag (4-(v+1)) om ⟨n2,v+1,rfl,rfl,rfl,om,om,(fun hx=>by
     rcases Nat.eq_zero_or_pos i with hi0|hi0
     · rcases Nat.eq_zero_or_pos h with hh0|hh0
       · by_cases hv1:v=1
         ·exact absurd k45 (by subst hh0;subst hv1;rw[pU_first hG' hc hs0];decide)
         ·omega
       ·omega
     ·omega)⟩
 refine To.z 11 ?_
 refine To.agS (pp.names.length-(h+1)) om ⟨⟨n2,h+1,rfl,rfl,rfl,om,om,(fun _=>by omega)⟩,sb⟩
 refine To.z 11 ?_
 refine To.agS (F.comps.length-(i+1)) om ⟨⟨n1,i+1,rfl,rfl,rfl,om,om,(fun _=>by omega)⟩,sb⟩
 refine To.z 13 ?_
 refine To.del2 (To.del1 (To.del0 (To.e1 results9 ?_)))
 exact congrArg Value.bool (decide_eq_true om)
end Go.Proofs.YtllalpnmagpkfaaGreatDoor

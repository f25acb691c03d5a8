/- Merged out of Cp2, Cp3 by merge.py. Own text. -/
import Derived.Test.YtihgdnjkofpgiaaGreatDoorUh
set_option linter.unusedVariables false
set_option linter.unusedSimpArgs false
set_option maxHeartbeats 2000000
set_option maxRecDepth 100000
namespace Go.Proofs.YtihgdnjkofpgiaaGreatDoor
open Go.RowKit Go.Flow Go.Mem Go.Sep Go.In
theorem copyE_step(e:Ex)(hlow:e.pure.low)(ih:∀x∈e.args,Does Tryz.prog 185 [.agg (encX x).toArray] [all ((Ex.kids encX) x)] (OneR encX (Ex.kids encX) Ex.pure (fun _:Ex=>True) x)):
    Does Tryz.prog 185 [.agg (encX e).toArray] [all (e.kids encX)] (OneR encX (Ex.kids encX) Ex.pure (fun _:Ex=>True) e):=by
 refine Does.enter Tryz.func185 rfl Tryz.ntmps185 rfl (fun w0=>?_)
 refine To.s (To.g ?_)
 refine To.bo fun b1=>?_
 refine To.al fun b2=>?_
 refine To.z 3 ?_
 refine To.part 2 rfl (krow encX (Ex.kids encX) e.A e.args) (krow_lax (Ex.lax encX) _ _) (fun c hc=>by rw[Ex.kids_krow];exact hc) ?_
 refine To.z 3 ?_
 refine To.cl [0] rfl rfl rfl (Ent.fn rfl rfl ca184) rfl (eachEx_fn e.args e.A e.q (by have:=Ex.low_op hlow;omega) ih) ?_
 rintro _ _ ⟨A2,q2,l2,rfl,rfl,hp2,hc2,hz2⟩
 refine To.z 11 ?_
 refine To.endC [0] rfl (.inl rfl) Tryz.results185 rfl (i:=1) rfl r241 rfl ?_
 exact⟨(⟨e.op,e.name,e.n,A2,q2,l2⟩:Ex),rfl,by rw[Ex.kids_krow],by rw[Ex.pure_eq e,Ex.pureL_map,←hp2,←Ex.pureL_map];rfl,trivial⟩
theorem copyE_fn:∀e:Ex,e.pure.low→Does Tryz.prog 185 [.agg (encX e).toArray] [all ((Ex.kids encX) e)] (OneR encX (Ex.kids encX) Ex.pure (fun _:Ex=>True) e)
 |e,h=>copyE_step e h (fun x hx=>copyE_fn x (Ex.low_mem h hx))
termination_by e=>SizeOf.sizeOf e
decreasing_by
 cases e with
 | mk op s n A q l=>
   have:=List.sizeOf_lt_of_mem (show x∈l from hx)
   simp only[Ex.mk.sizeOf_spec]
   omega
set_option maxHeartbeats 4000000 in
set_option maxRecDepth 100000 in
theorem copyS_step(s:St)(hlow:s.pure.low)(ihX:∀x∈s.exprs,Does Tryz.prog 185 [.agg (encX x).toArray] [all ((Ex.kids encX) x)] (OneR encX (Ex.kids encX) Ex.pure (fun _:Ex=>True) x))(ihT:∀x∈s.thn,Does Tryz.prog 135 [.agg (encT x).toArray] [all ((St.kids encX encT) x)] (OneR encT (St.kids encX encT) St.pure (fun _:St=>True) x))(ihE:∀x∈s.els,Does Tryz.prog 135 [.agg (encT x).toArray] [all ((St.kids encX encT) x)] (OneR encT (St.kids encX encT) St.pure (fun _:St=>True) x)):
    Does Tryz.prog 135 [.agg (encT s).toArray] [all (s.kids encX encT)] (OneR encT (St.kids encX encT) St.pure (fun _:St=>True) s):=by
 obtain⟨hk,⟨he,hel⟩,⟨ht,htl⟩,hn,hnl⟩:=St.low_at hlow
 refine Does.enter Tryz.func135 rfl Tryz.ntmps135 rfl (fun w0=>?_)
 refine To.s (To.g ?_)
 refine To.bo fun b1=>?_
 refine To.al fun b2=>?_
 refine To.z 3 ?_
 refine To.part 2 rfl (krow encX (Ex.kids encX) s.A s.exprs) (krow_lax (Ex.lax encX) _ _) (fun c hc=>by rw[St.kids_krow];exact List.mem_append_left _ hc) (To.part 3 rfl (krow encT (St.kids encX encT) s.Ae s.els) (krow_lax (St.lax encX encT) _ _) (fun c hc=>by rw[St.kids_krow];exact List.mem_append_right _ (List.mem_append_right _ hc)) (To.part 4 rfl (krow encT (St.kids encX encT) s.At s.thn) (krow_lax (St.lax encX encT) _ _) (fun c hc=>by rw[St.kids_krow];exact List.mem_append_right _ (List.mem_append_left _ hc)) (To.regionT (telJ (tel []) (telC [(2,[all (krow encX (Ex.kids encX) s.A s.exprs)],(EachR encX (Ex.kids encX) Ex.pure (fun _:Ex=>True) s.exprs)),(5,[all (krow encT (St.kids encX encT) s.At s.thn)],(EachR encT (St.kids encX encT) St.pure (fun _:St=>True) s.thn)),(8,[all (krow encT (St.kids encX encT) s.Ae s.els)],(EachR encT (St.kids encX encT) St.pure (fun _:St=>True) s.els))])) mixed ?_)))
 refine To.splitT 4 2 rfl (by kernel_rfl) ?_ ?_
 refine To.splitT 7 2 rfl (by kernel_rfl) ?_ ?_
 refine To.splitT 7 5 rfl (by kernel_rfl) ?_ ?_
 refine To.flowT [] [⟨0,[],0⟩,⟨3,[],0⟩,⟨6,[],0⟩,⟨1,[],1⟩,⟨2,[],5⟩,⟨4,[],1⟩,⟨5,[],5⟩,⟨7,[],1⟩,⟨9,[],0⟩,⟨8,[],5⟩,⟨10,[],5⟩,⟨11,[],0⟩,⟨12,[],5⟩,⟨13,[],0⟩,⟨14,[],5⟩] (by kernel_rfl) rfl (ocn _) ?_
 refine To.z 4 ?_
 refine Fw.turnT [2] rfl rfl rfl rfl (Ent.fn rfl rfl ca184) rfl (eachEx_fn s.exprs s.A s.q (by omega) ihX) rfl ?_
 rintro _ _ ⟨A2,q2,l2,rfl,rfl,hp2,hc2,hz2⟩
 refine⟨ocn _,?_⟩
 refine To.z 1 ?_
 refine Fw.turnT [1] rfl rfl rfl rfl (Ent.fn rfl rfl ca134) rfl (eachSt_fn s.thn s.At s.qt (by omega) ihT) rfl ?_
 rintro _ _ ⟨A3,q3,l3,rfl,rfl,hp3,hc3,hz3⟩
 refine⟨ocn _,?_⟩
 refine To.z 2 ?_
 refine Fw.turnT [2] rfl rfl rfl rfl (Ent.fn rfl rfl ca134) rfl (eachSt_fn s.els s.Ae s.qe (by omega) ihE) rfl ?_
 rintro _ _ ⟨A4,q4,l4,rfl,rfl,hp4,hc4,hz4⟩
 refine⟨ocn _,?_⟩
 refine Fw.up rfl rfl rfl (Up.store (i:=4) rfl rfl rfl c210 rfl rfl (bt1 rfl)) (ocn _) ?_
 refine To.z 1 ?_
 refine Fw.up rfl rfl rfl (Up.store (i:=4) rfl rfl rfl c118 rfl rfl (bt1 rfl)) (ocn _) ?_
 refine To.z 1 ?_
 refine Fw.up rfl rfl rfl (Up.store (i:=4) rfl rfl rfl c118 rfl rfl (bt1 rfl)) (ocn _) ?_
 refine To.z 9 ?_
 refine To.up1 (To.up2 (To.stK encX encT (⟨s.kind,s.name,s.hand,A2,q2,l2,A3,q3,l3,A4,q4,l4⟩:St) (To.endC [0] rfl (.inl rfl) Tryz.results135 rfl (i:=1) rfl r212 rfl ?_)))
 exact⟨(⟨s.kind,s.name,s.hand,A2,q2,l2,A3,q3,l3,A4,q4,l4⟩:St),rfl,rfl,by rw[St.pq s,Ex.pureL_map,St.pm,St.pm,←hp2,←hp3,←hp4,←Ex.pureL_map,←St.pm,←St.pm];rfl,trivial⟩
 refine To.flowT [] [⟨0,[],0⟩,⟨3,[],0⟩,⟨6,[],0⟩,⟨1,[],1⟩,⟨2,[],5⟩,⟨4,[],1⟩,⟨7,[],1⟩,⟨9,[],0⟩,⟨5,[],5⟩,⟨8,[],5⟩,⟨10,[],5⟩,⟨11,[],0⟩,⟨12,[],5⟩,⟨13,[],0⟩,⟨14,[],5⟩] (by kernel_rfl) rfl (ocn _) ?_
 refine To.z 4 ?_
 refine Fw.turnT [2] rfl rfl rfl rfl (Ent.fn rfl rfl ca184) rfl (eachEx_fn s.exprs s.A s.q (by omega) ihX) rfl ?_
 rintro _ _ ⟨A2,q2,l2,rfl,rfl,hp2,hc2,hz2⟩
 refine⟨ocn _,?_⟩
 refine To.z 3 ?_
 refine Fw.turnT [1] rfl rfl rfl rfl (Ent.fn rfl rfl ca134) rfl (eachSt_fn s.thn s.At s.qt (by omega) ihT) rfl ?_
 rintro _ _ ⟨A3,q3,l3,rfl,rfl,hp3,hc3,hz3⟩
 refine⟨ocn _,?_⟩
 refine Fw.turnT [2] rfl rfl rfl rfl (Ent.fn rfl rfl ca134) rfl (eachSt_fn s.els s.Ae s.qe (by omega) ihE) rfl ?_
 rintro _ _ ⟨A4,q4,l4,rfl,rfl,hp4,hc4,hz4⟩
 refine⟨ocn _,?_⟩
 refine Fw.up rfl rfl rfl (Up.store (i:=4) rfl rfl rfl c210 rfl rfl (bt1 rfl)) (ocn _) ?_
 refine To.z 1 ?_
 refine Fw.up rfl rfl rfl (Up.store (i:=4) rfl rfl rfl c118 rfl rfl (bt1 rfl)) (ocn _) ?_
 refine To.z 1 ?_
 refine Fw.up rfl rfl rfl (Up.store (i:=4) rfl rfl rfl c118 rfl rfl (bt1 rfl)) (ocn _) ?_
 refine To.z 9 ?_
 refine To.up1 (To.up2 (To.stK encX encT (⟨s.kind,s.name,s.hand,A2,q2,l2,A3,q3,l3,A4,q4,l4⟩:St) (To.endC [0] rfl (.inl rfl) Tryz.results135 rfl (i:=1) rfl r212 rfl ?_)))
 exact⟨(⟨s.kind,s.name,s.hand,A2,q2,l2,A3,q3,l3,A4,q4,l4⟩:St),rfl,rfl,by rw[St.pq s,Ex.pureL_map,St.pm,St.pm,←hp2,←hp3,←hp4,←Ex.pureL_map,←St.pm,←St.pm];rfl,trivial⟩
 refine To.flowT [] [⟨0,[],0⟩,⟨3,[],0⟩,⟨6,[],0⟩,⟨1,[],1⟩,⟨7,[],1⟩,⟨2,[],5⟩,⟨4,[],1⟩,⟨9,[],0⟩,⟨5,[],5⟩,⟨8,[],5⟩,⟨10,[],5⟩,⟨11,[],0⟩,⟨12,[],5⟩,⟨13,[],0⟩,⟨14,[],5⟩] (by kernel_rfl) rfl (ocn _) ?_
 refine To.z 5 ?_
 refine Fw.turnT [2] rfl rfl rfl rfl (Ent.fn rfl rfl ca184) rfl (eachEx_fn s.exprs s.A s.q (by omega) ihX) rfl ?_
 rintro _ _ ⟨A2,q2,l2,rfl,rfl,hp2,hc2,hz2⟩
 refine⟨ocn _,?_⟩
 refine To.z 2 ?_
 refine Fw.turnT [1] rfl rfl rfl rfl (Ent.fn rfl rfl ca134) rfl (eachSt_fn s.thn s.At s.qt (by omega) ihT) rfl ?_
 rintro _ _ ⟨A3,q3,l3,rfl,rfl,hp3,hc3,hz3⟩
 refine⟨ocn _,?_⟩
 refine Fw.turnT [2] rfl rfl rfl rfl (Ent.fn rfl rfl ca134) rfl (eachSt_fn s.els s.Ae s.qe (by omega) ihE) rfl ?_
 rintro _ _ ⟨A4,q4,l4,rfl,rfl,hp4,hc4,hz4⟩
 refine⟨ocn _,?_⟩
 refine Fw.up rfl rfl rfl (Up.store (i:=4) rfl rfl rfl c210 rfl rfl (bt1 rfl)) (ocn _) ?_
 refine To.z 1 ?_
 refine Fw.up rfl rfl rfl (Up.store (i:=4) rfl rfl rfl c118 rfl rfl (bt1 rfl)) (ocn _) ?_
 refine To.z 1 ?_
 refine Fw.up rfl rfl rfl (Up.store (i:=4) rfl rfl rfl c118 rfl rfl (bt1 rfl)) (ocn _) ?_
 refine To.z 9 ?_
 refine To.up1 (To.up2 (To.stK encX encT (⟨s.kind,s.name,s.hand,A2,q2,l2,A3,q3,l3,A4,q4,l4⟩:St) (To.endC [0] rfl (.inl rfl) Tryz.results135 rfl (i:=1) rfl r212 rfl ?_)))
 exact⟨(⟨s.kind,s.name,s.hand,A2,q2,l2,A3,q3,l3,A4,q4,l4⟩:St),rfl,rfl,by rw[St.pq s,Ex.pureL_map,St.pm,St.pm,←hp2,←hp3,←hp4,←Ex.pureL_map,←St.pm,←St.pm];rfl,trivial⟩
 refine To.splitT 7 2 rfl (by kernel_rfl) ?_ ?_
 refine To.splitT 7 5 rfl (by kernel_rfl) ?_ ?_
 refine To.flowT [] [⟨0,[],0⟩,⟨3,[],0⟩,⟨6,[],0⟩,⟨1,[],1⟩,⟨4,[],1⟩,⟨2,[],5⟩,⟨5,[],5⟩,⟨7,[],1⟩,⟨9,[],0⟩,⟨8,[],5⟩,⟨10,[],5⟩,⟨11,[],0⟩,⟨12,[],5⟩,⟨13,[],0⟩,⟨14,[],5⟩] (by kernel_rfl) rfl (ocn _) ?_
 refine To.z 5 ?_
 refine Fw.turnT [2] rfl rfl rfl rfl (Ent.fn rfl rfl ca184) rfl (eachEx_fn s.exprs s.A s.q (by omega) ihX) rfl ?_
 rintro _ _ ⟨A2,q2,l2,rfl,rfl,hp2,hc2,hz2⟩
 refine⟨ocn _,?_⟩
 refine Fw.turnT [1] rfl rfl rfl rfl (Ent.fn rfl rfl ca134) rfl (eachSt_fn s.thn s.At s.qt (by omega) ihT) rfl ?_
 rintro _ _ ⟨A3,q3,l3,rfl,rfl,hp3,hc3,hz3⟩
 refine⟨ocn _,?_⟩
 refine To.z 2 ?_
 refine Fw.turnT [2] rfl rfl rfl rfl (Ent.fn rfl rfl ca134) rfl (eachSt_fn s.els s.Ae s.qe (by omega) ihE) rfl ?_
 rintro _ _ ⟨A4,q4,l4,rfl,rfl,hp4,hc4,hz4⟩
 refine⟨ocn _,?_⟩
 refine Fw.up rfl rfl rfl (Up.store (i:=4) rfl rfl rfl c210 rfl rfl (bt1 rfl)) (ocn _) ?_
 refine To.z 1 ?_
 refine Fw.up rfl rfl rfl (Up.store (i:=4) rfl rfl rfl c118 rfl rfl (bt1 rfl)) (ocn _) ?_
 refine To.z 1 ?_
 refine Fw.up rfl rfl rfl (Up.store (i:=4) rfl rfl rfl c118 rfl rfl (bt1 rfl)) (ocn _) ?_
 refine To.z 9 ?_
 refine To.up1 (To.up2 (To.stK encX encT (⟨s.kind,s.name,s.hand,A2,q2,l2,A3,q3,l3,A4,q4,l4⟩:St) (To.endC [0] rfl (.inl rfl) Tryz.results135 rfl (i:=1) rfl r212 rfl ?_)))
 exact⟨(⟨s.kind,s.name,s.hand,A2,q2,l2,A3,q3,l3,A4,q4,l4⟩:St),rfl,rfl,by rw[St.pq s,Ex.pureL_map,St.pm,St.pm,←hp2,←hp3,←hp4,←Ex.pureL_map,←St.pm,←St.pm];rfl,trivial⟩
 refine To.flowT [] [⟨0,[],0⟩,⟨3,[],0⟩,⟨6,[],0⟩,⟨1,[],1⟩,⟨4,[],1⟩,⟨2,[],5⟩,⟨7,[],1⟩,⟨9,[],0⟩,⟨5,[],5⟩,⟨8,[],5⟩,⟨10,[],5⟩,⟨11,[],0⟩,⟨12,[],5⟩,⟨13,[],0⟩,⟨14,[],5⟩] (by kernel_rfl) rfl (ocn _) ?_
 refine To.z 5 ?_
 refine Fw.turnT [2] rfl rfl rfl rfl (Ent.fn rfl rfl ca184) rfl (eachEx_fn s.exprs s.A s.q (by omega) ihX) rfl ?_
 rintro _ _ ⟨A2,q2,l2,rfl,rfl,hp2,hc2,hz2⟩
 refine⟨ocn _,?_⟩
 refine To.z 2 ?_
 refine Fw.turnT [1] rfl rfl rfl rfl (Ent.fn rfl rfl ca134) rfl (eachSt_fn s.thn s.At s.qt (by omega) ihT) rfl ?_
 rintro _ _ ⟨A3,q3,l3,rfl,rfl,hp3,hc3,hz3⟩
 refine⟨ocn _,?_⟩
 refine Fw.turnT [2] rfl rfl rfl rfl (Ent.fn rfl rfl ca134) rfl (eachSt_fn s.els s.Ae s.qe (by omega) ihE) rfl ?_
 rintro _ _ ⟨A4,q4,l4,rfl,rfl,hp4,hc4,hz4⟩
 refine⟨ocn _,?_⟩
 refine Fw.up rfl rfl rfl (Up.store (i:=4) rfl rfl rfl c210 rfl rfl (bt1 rfl)) (ocn _) ?_
 refine To.z 1 ?_
 refine Fw.up rfl rfl rfl (Up.store (i:=4) rfl rfl rfl c118 rfl rfl (bt1 rfl)) (ocn _) ?_
 refine To.z 1 ?_
 refine Fw.up rfl rfl rfl (Up.store (i:=4) rfl rfl rfl c118 rfl rfl (bt1 rfl)) (ocn _) ?_
 refine To.z 9 ?_
 refine To.up1 (To.up2 (To.stK encX encT (⟨s.kind,s.name,s.hand,A2,q2,l2,A3,q3,l3,A4,q4,l4⟩:St) (To.endC [0] rfl (.inl rfl) Tryz.results135 rfl (i:=1) rfl r212 rfl ?_)))
 exact⟨(⟨s.kind,s.name,s.hand,A2,q2,l2,A3,q3,l3,A4,q4,l4⟩:St),rfl,rfl,by rw[St.pq s,Ex.pureL_map,St.pm,St.pm,←hp2,←hp3,←hp4,←Ex.pureL_map,←St.pm,←St.pm];rfl,trivial⟩
 refine To.flowT [] [⟨0,[],0⟩,⟨3,[],0⟩,⟨6,[],0⟩,⟨1,[],1⟩,⟨4,[],1⟩,⟨7,[],1⟩,⟨2,[],5⟩,⟨9,[],0⟩,⟨5,[],5⟩,⟨8,[],5⟩,⟨10,[],5⟩,⟨11,[],0⟩,⟨12,[],5⟩,⟨13,[],0⟩,⟨14,[],5⟩] (by kernel_rfl) rfl (ocn _) ?_
 refine To.z 6 ?_
 refine Fw.turnT [2] rfl rfl rfl rfl (Ent.fn rfl rfl ca184) rfl (eachEx_fn s.exprs s.A s.q (by omega) ihX) rfl ?_
 rintro _ _ ⟨A2,q2,l2,rfl,rfl,hp2,hc2,hz2⟩
 refine⟨ocn _,?_⟩
 refine To.z 1 ?_
 refine Fw.turnT [1] rfl rfl rfl rfl (Ent.fn rfl rfl ca134) rfl (eachSt_fn s.thn s.At s.qt (by omega) ihT) rfl ?_
 rintro _ _ ⟨A3,q3,l3,rfl,rfl,hp3,hc3,hz3⟩
 refine⟨ocn _,?_⟩
 refine Fw.turnT [2] rfl rfl rfl rfl (Ent.fn rfl rfl ca134) rfl (eachSt_fn s.els s.Ae s.qe (by omega) ihE) rfl ?_
 rintro _ _ ⟨A4,q4,l4,rfl,rfl,hp4,hc4,hz4⟩
 refine⟨ocn _,?_⟩
 refine Fw.up rfl rfl rfl (Up.store (i:=4) rfl rfl rfl c210 rfl rfl (bt1 rfl)) (ocn _) ?_
 refine To.z 1 ?_
 refine Fw.up rfl rfl rfl (Up.store (i:=4) rfl rfl rfl c118 rfl rfl (bt1 rfl)) (ocn _) ?_
 refine To.z 1 ?_
 refine Fw.up rfl rfl rfl (Up.store (i:=4) rfl rfl rfl c118 rfl rfl (bt1 rfl)) (ocn _) ?_
 refine To.z 9 ?_
 refine To.up1 (To.up2 (To.stK encX encT (⟨s.kind,s.name,s.hand,A2,q2,l2,A3,q3,l3,A4,q4,l4⟩:St) (To.endC [0] rfl (.inl rfl) Tryz.results135 rfl (i:=1) rfl r212 rfl ?_)))
 exact⟨(⟨s.kind,s.name,s.hand,A2,q2,l2,A3,q3,l3,A4,q4,l4⟩:St),rfl,rfl,by rw[St.pq s,Ex.pureL_map,St.pm,St.pm,←hp2,←hp3,←hp4,←Ex.pureL_map,←St.pm,←St.pm];rfl,trivial⟩
theorem copyS_fn:∀s:St,s.pure.low→Does Tryz.prog 135 [.agg (encT s).toArray] [all ((St.kids encX encT) s)] (OneR encT (St.kids encX encT) St.pure (fun _:St=>True) s)
 |s,h=>copyS_step s h (fun x hx=>copyE_fn x (Ex.lowL_at (St.low_at h).2.1.2 hx)) (fun x hx=>copyS_fn x (St.lowL_at (St.low_at h).2.2.1.2 hx)) (fun x hx=>copyS_fn x (St.lowL_at (St.low_at h).2.2.2.2 hx))
termination_by s=>SizeOf.sizeOf s
decreasing_by
 all_goals
  have h1:=List.sizeOf_lt_of_mem hx
  have:SizeOf.sizeOf s.thn<SizeOf.sizeOf s∧SizeOf.sizeOf s.els<SizeOf.sizeOf s:=by cases s;simp only[St.mk.sizeOf_spec];omega
  omega
theorem copyH_fn(h:Hd)(hps:h.ps.length≤2)(hb:h.body.length≤12)(hlow:PS.lowL (St.pL h.body)):
    Does Tryz.prog 96 [.agg (encH h).toArray] [all (h.kids eX)] (OneR encH (Hd.kids eX) Hd.pure (fun h:Hd=>h.ps.length≤h.qp) h):=by
 refine Does.enter Tryz.func96 rfl Tryz.ntmps96 rfl (fun w0=>?_)
 refine To.s (To.g ?_)
 refine To.bo fun b1=>?_
 refine To.al fun b2=>?_
 refine To.z 3 ?_
 refine To.part 2 rfl (krow encT (St.kids encX encT) h.Ab h.body) (krow_lax (St.lax encX encT) _ _) (fun c hc=>by rw[Hd.kids_krow];exact List.mem_cons_of_mem _ hc) (To.one 3 rfl (ros encZ h.Ap h.ps) rfl (Hd.ps_k) (To.regionT (telJ (tel []) (telC [(8,[all (krow encT (St.kids encX encT) h.Ab h.body)],(EachR encT (St.kids encX encT) St.pure (fun _:St=>True) h.body))])) mixed (To.flowT [box b1 [.string h.name, .slice h.Ap h.ps.length h.qp, .slice h.Ab h.body.length h.qb] 120] [⟨0,[],0⟩,⟨1,[],0⟩,⟨3,[],0⟩,⟨4,[],0⟩,⟨6,[],0⟩,⟨7,[],0⟩,⟨2,[],2⟩,⟨5,[2],2⟩,⟨8,[2,5],5⟩,⟨9,[],0⟩,⟨10,[],5⟩] (by kernel_rfl) rfl (ocs (oca 3 rfl) (ocn _)) ?_)))
 refine To.z 6 ?_
 refine Fw.mk rfl rfl rfl rfl rfl (Mk.slice0 rfl s54) ?_
 rintro _ _ ⟨A5,rfl,rfl⟩
 refine Fw.mk rfl rfl rfl rfl rfl (Mk.appendRo encZ_ok (m:=h.ps) rfl s54 rfl rfl (oca (c:=ros encZ h.Ap h.ps) 1 rfl) (by omega) (by omega)) ?_
 rintro _ _ ⟨A4,q4,rfl,rfl,hz4⟩
 refine Fw.turnT [3] rfl rfl rfl rfl (Ent.fn rfl rfl ca134) rfl (eachSt_fn h.body h.Ab h.qb (by omega) (fun x hx=>copyS_fn x (St.lowL_at hlow hx))) rfl ?_
 rintro _ _ ⟨A2,q2,l2,rfl,rfl,hp2,hc2,hz2⟩
 refine⟨ocs (oca 5 rfl) (ocn _),?_⟩
 refine Fw.f rfl (Rd.build (vs:=[(0, .string h.name),(1, .slice A4 h.ps.length q4),(2, .slice A2 l2.length q2)]) (cells:=[.string h.name, .slice A4 h.ps.length q4, .slice A2 l2.length q2]) rfl rfl rfl (by kernel_rfl)) ?_
 refine Fw.up rfl rfl rfl (Up.storeS (i:=4) rfl rfl rfl r120 rfl rfl rfl (bta rfl)) (ocs (oca 5 rfl) (ocn _)) ?_
 refine To.z 3 ?_
 refine To.up1 (To.allCons (To.endC [0] rfl (.inl rfl) Tryz.results96 rfl (i:=3) rfl r120 rfl ?_))
 exact⟨(⟨h.name,A4,q4,h.ps,A2,q2,l2⟩:Hd),rfl,by rw[Hd.kids_krow];rfl,by unfold Hd.pure;rw[St.pm,hp2,←St.pm],hz4⟩
theorem copyV_fn(v:Vs)(hl:v.l.length≤3)(hv:∀h∈v.l,h.ps.length≤2∧h.body.length≤12∧PS.lowL (St.pL h.body)):
    Does Tryz.prog 94 [.agg (encVs v).toArray] [all (v.kids eX)] (OneR encVs (Vs.kids eX) Vs.pure Vs.Cap v):=by
 refine Does.enter Tryz.func94 rfl Tryz.ntmps94 rfl (fun w0=>?_)
 refine To.s (To.g ?_)
 refine To.bo fun b1=>?_
 refine To.al fun b2=>?_
 refine To.z 3 ?_
 refine To.part 2 rfl (krow encH (Hd.kids eX) v.A v.l) (krow_lax (Hd.lax eX) _ _) (fun c hc=>hc) ?_
 refine To.z 3 ?_
 refine To.cl [0] rfl rfl rfl (Ent.fn rfl rfl ca95) rfl (eachHd_fn v.l v.A v.q (by omega) (fun x hx=>copyH_fn x (hv x hx).1 (hv x hx).2.1 (hv x hx).2.2)) ?_
 rintro _ _ ⟨A2,q2,l2,rfl,rfl,hp2,hc2,hz2⟩
 refine To.r (Rd.build (vs:=[(0, .slice A2 l2.length q2)]) (cells:=[.slice A2 l2.length q2]) rfl rfl rfl (by kernel_rfl)) ?_
 refine To.z 4 ?_
 refine To.endC [0] rfl (.inl rfl) Tryz.results94 rfl (i:=1) rfl r117 rfl ?_
 exact⟨(⟨A2,q2,l2⟩:Vs),rfl,rfl,hp2,hz2,hc2⟩
theorem copyC_fn(c:Cm)(hcv:c.vars.length≤5)(hl:c.vers.length≤2)(hv:∀v∈c.vers,v.l.length≤3∧∀h∈v.l,h.ps.length≤2∧h.body.length≤12∧PS.lowL (St.pL h.body)):
    Does Tryz.prog 92 [.agg (encC c).toArray] [all (c.kids eX)] (OneR encC (Cm.kids eX) Cm.pure Cm.Cap c):=by
 refine Does.enter Tryz.func92 rfl Tryz.ntmps92 rfl (fun w0=>?_)
 refine To.s (To.g ?_)
 refine To.bo fun b1=>?_
 refine To.al fun b2=>?_
 refine To.z 3 ?_
 refine To.one 2 rfl (ros encVx c.Av c.vars) rfl (Cm.vars_k) (To.g (To.mk rfl rfl rfl (Mk.slice0 rfl s88) ?_))
 rintro _ _ ⟨A3,rfl,rfl⟩
 refine To.z 2 ?_
 refine To.mk rfl rfl rfl (Mk.appendRo encVx_ok (m:=c.vars) rfl s88 rfl rfl (oca (c:=ros encVx c.Av c.vars) 1 rfl) (by omega) (by omega)) ?_
 rintro _ _ ⟨A4,q4,rfl,rfl,hz4⟩
 refine To.z 5 ?_
 refine To.part 5 rfl (krow encVs (Vs.kids eX) c.An c.vers) (krow_lax (Vs.lax eX) _ _) (fun z hz=>List.mem_cons_of_mem _ hz) ?_
 refine To.z 3 ?_
 refine To.cl [0] rfl rfl rfl (Ent.fn rfl rfl ca93) rfl (eachVs_fn c.vers c.An c.qn (by omega) (fun x hx=>copyV_fn x (hv x hx).1 (hv x hx).2)) ?_
 rintro _ _ ⟨A2,q2,l2,rfl,rfl,hp2,hc2,hz2⟩
 refine To.z 11 ?_
 refine To.up1 (To.allCons (To.endC [0] rfl (.inl rfl) Tryz.results92 rfl (i:=3) rfl r107 rfl ?_))
 exact⟨(⟨c.name,A4,q4,c.vars,A2,q2,l2⟩:Cm),rfl,rfl,by unfold Cm.pure;rw[hp2],⟨hz4,hz2⟩,hc2⟩
theorem copyF_fn(F:Fl)(hF:LowF F):
    Does Tryz.prog 51 [.agg #[.string F.name, .slice F.Af F.flags.length F.qf, .slice F.Al F.links.length F.ql, .slice F.Ac F.comps.length F.qc]] [all (F.kids eX)] (fun v Γ'=>∃F':Fl,v= .agg F'.cells.toArray∧Γ'=[all (F'.kids eX)]∧F'.Cap∧F'.pure=F.pure):=by
 have hfl:=hF.flags
 have hlk:=hF.links
 have hcm:=hF.comps
 refine Does.enter Tryz.func51 rfl Tryz.ntmps51 rfl (fun w0=>?_)
 refine To.s (To.g ?_)
 refine To.bo fun b1=>?_
 refine To.al fun b2=>?_
 refine To.z 3 ?_
 refine To.one 2 rfl (ros encFg F.Af F.flags) rfl (Fl.flags_k) (To.one 3 rfl (ros encLk F.Al F.links) rfl (Fl.links_k) (To.flow [] [⟨1,[],0⟩,⟨5,[],0⟩,⟨0,[],2⟩,⟨2,[],1⟩,⟨3,[0],2⟩,⟨4,[],2⟩,⟨6,[],1⟩,⟨8,[0,3],0⟩,⟨7,[0,3,4],2⟩,⟨9,[0,3,4,7],5⟩,⟨10,[],0⟩,⟨11,[],5⟩] mixed (by kernel_rfl) (ocn _) ?_))
 refine To.z 2 ?_
 refine Fw.mk rfl rfl rfl rfl rfl (Mk.slice0 rfl s70) ?_
 rintro _ _ ⟨A3,rfl,rfl⟩
 refine To.z 1 ?_
 refine Fw.mk rfl rfl rfl rfl rfl (Mk.appendRo encFg_ok (m:=F.flags) rfl s70 rfl rfl (oca (c:=ros encFg F.Af F.flags) 2 rfl) (by omega) (by omega)) ?_
 rintro _ _ ⟨A4,q4,rfl,rfl,hz4⟩
 refine Fw.mk rfl rfl rfl rfl rfl (Mk.slice0 rfl s71) ?_
 rintro _ _ ⟨A7,rfl,rfl⟩
 refine To.z 2 ?_
 refine Fw.mk rfl rfl rfl rfl rfl (Mk.appendRo encLk_ok (m:=F.links) rfl s71 rfl rfl (oca (c:=ros encLk F.Al F.links) 3 rfl) (by omega) (by omega)) ?_
 rintro _ _ ⟨A5,q5,rfl,rfl,hz5⟩
 refine Fw.up rfl rfl rfl (Up.store (i:=7) rfl rfl rfl c70 rfl rfl (bt1 rfl)) (ocn _) ?_
 refine To.z 1 ?_
 refine Fw.up rfl rfl rfl (Up.store (i:=7) rfl rfl rfl c71 rfl rfl (bt1 rfl)) (ocn _) ?_
 refine To.z 3 ?_
 refine To.part 8 rfl (krow encC (Cm.kids eX) F.Ac F.comps) (krow_lax (Cm.lax eX) _ _) (fun z hz=>List.mem_cons_of_mem _ (List.mem_cons_of_mem _ hz)) ?_
 refine To.z 3 ?_
 refine To.cl [0] rfl rfl rfl (Ent.fn rfl rfl ca91) rfl (eachCm_fn F.comps F.Ac F.qc (by omega) (fun x hx=>copyC_fn x (hF.vars x hx).1 (hF.vers x hx).1 (hF.vers x hx).2)) ?_
 rintro _ _ ⟨A2,q2,l2,rfl,rfl,hp2,hc2,hz2⟩
 refine To.z 11 ?_
 refine To.up1 (To.allCons (To.up2 (To.allCons (To.endC [0] rfl (.inl rfl) Tryz.results51 rfl (i:=5) rfl r74 rfl ?_))))
 exact⟨(⟨F.name,A4,q4,F.flags,A5,q5,F.links,A2,q2,l2⟩:Fl),rfl,rfl,⟨⟨hz4,hz5,hz2⟩,hc2⟩,by show(⟨F.name,F.flags,F.links,l2.map Cm.pure⟩:PF)=_;rw[hp2];rfl⟩
end Go.Proofs.YtihgdnjkofpgiaaGreatDoor

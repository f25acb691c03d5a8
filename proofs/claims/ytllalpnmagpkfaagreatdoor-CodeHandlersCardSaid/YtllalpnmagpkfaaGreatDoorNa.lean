/- Own text. -/
import Derived.Test.YtllalpnmagpkfaaGreatDoorWe
set_option linter.unusedVariables false
set_option linter.unusedSimpArgs false
set_option maxHeartbeats 2000000
set_option maxRecDepth 100000
namespace Go.Proofs.YtllalpnmagpkfaaGreatDoor
open Go.Proofs.Tryz
open Go.RowKit Go.Flow Go.Mem Go.Sep Go.In
theorem punitX_fn(b:Nat)(A:OA)(q:Nat)(ps:List PP)(x v h:Int)(hx:x<0∨(ps.length:Int)≤x):
    Dz 15 [pv b, .int .i64 x, .int .i64 v, .int .i64 h] [all (pgk b A q ps)] (fun v Γ'=>v= .tuple #[.agg #[.int .i64 0, .int .i64 0, .slice none 0 0], .bool false]∧Γ'=[]):=by
 refine Does.en func15 ntmps15 fun w0=>?_
 refine Js (To.g (Jal fun b8=>?_))
 refine Jz 5 ?_
 refine To.one 1 rfl (ro (some ⟨b,0,none⟩) [vs A ps q]) rfl (pgk_b) (Jz 2 ?_)
 refine Jr (Rd.eqlNil rfl underlying27 rfl rfl) ?_
 refine Jz 4 ?_
 refine JgP ?_ ?_<;>intro g18
 refine Jz 13 ?_
 refine Jr (.bd [.int .i64 0, .int .i64 0, .slice none 0 0]) ?_
 refine Jz 6 ?_
 refine JendCT [] rfl (.inl rfl) results15 rfl (i:=1) rfl r42 rfl rfl ?_
 exact⟨rfl,rfl⟩
 refine Jz 4 ?_
 refine Jr (Rd.ld (i:=0) rfl rfl c158 rfl (ro_gives (A:=some ⟨b,0,none⟩) (o:=0) (k:=1) rfl)) ?_
 refine Jz 5 ?_
 refine Jcp rfl ?_ ?_<;>intro k26
 refine Js (To.g (Jr (.bd [.int .i64 0, .int .i64 0, .slice none 0 0]) ?_))
 refine Jz 6 ?_
 refine JendCT [] rfl (.inl rfl) results15 rfl (i:=1) rfl r42 rfl rfl ?_
 exact⟨rfl,rfl⟩
 exact absurd hx om
theorem phandX_fn(b:Nat)(A:OA)(q:Nat)(ps:List PP)(x:Int)(hx:x<0∨(ps.length:Int)≤x):
    Dz 27 [pv b, .int .i64 x] [all (pgk b A q ps)] (fun v Γ'=>v= .slice none 0 0∧Γ'=[]):=by
 refine Does.en func27 ntmps27 fun w0=>?_
 refine Jz 7 ?_
 refine To.one 0 rfl (ro (some ⟨b,0,none⟩) [vs A ps q]) rfl (pgk_b) (Jz 2 ?_)
 refine Jr (Rd.eqlNil rfl underlying27 rfl rfl) ?_
 refine Jz 4 ?_
 refine JgP ?_ ?_<;>intro g11
 refine Jz 18 ?_
 refine Jdel1 (Jdel0 (Je1 results27 ?_))
 exact⟨rfl,rfl⟩
 refine Jz 4 ?_
 refine Jr (Rd.ld (i:=0) rfl rfl c158 rfl (ro_gives (A:=some ⟨b,0,none⟩) (o:=0) (k:=1) rfl)) ?_
 refine Jz 5 ?_
 refine Jcp rfl ?_ ?_<;>intro k19
 refine Jz 7 ?_
 refine Jdel1 (Jdel0 (Je1 results27 ?_))
 exact⟨rfl,rfl⟩
 exact absurd hx om
theorem punit0_fn:
    Dz 15 [.pointer none, .int .i64 0, .int .i64 1, .int .i64 0] [] (fun v Γ'=>v= .tuple #[.agg #[.int .i64 0, .int .i64 0, .slice none 0 0], .bool false]∧Γ'=[]):=by
 refine Does.en func15 ntmps15 fun w0=>?_
 refine Js (To.g (Jal fun b8=>?_))
 refine Jz 7 ?_
 refine Jr (Rd.eqlNil rfl underlying27 rfl rfl) ?_
 refine Jz 18 ?_
 refine Jr (.bd [.int .i64 0, .int .i64 0, .slice none 0 0]) ?_
 refine Jz 6 ?_
 refine JendCT [] rfl (.inl rfl) results15 rfl (i:=0) rfl r42 rfl rfl ?_
 exact⟨rfl,rfl⟩
theorem phand0_fn:
    Dz 27 [.pointer none, .int .i64 0] [] (fun v Γ'=>v= .slice none 0 0∧Γ'=[]):=by
 refine Does.en func27 ntmps27 fun w0=>?_
 refine Jz 9 ?_
 refine Jr (Rd.eqlNil rfl underlying27 rfl rfl) ?_
 refine Jz 23 ?_
 refine Je1 results27 ?_
 exact⟨rfl,rfl⟩
theorem punitV_fn(b:Nat)(A:OA)(q:Nat)(ps:List PP)(k:Nat)(p:PP)(hp:ps[k]?=some p)(hps:ps.length≤12)(v h:Int)(hbad:v<1∨(p.us.length:Int)<v∨h<0∨(p.names.length:Int)≤h):
    Dz 15 [pv b,nv k, .int .i64 v, .int .i64 h] [all (pgk b A q ps)] (fun v Γ'=>v= .tuple #[.agg #[.int .i64 0, .int .i64 0, .slice none 0 0], .bool false]∧Γ'=[]):=by
 have hkp:k<ps.length:=(List.getElem?_eq_some_iff.1 hp).1
 refine Does.en func15 ntmps15 fun w0=>?_
 refine Js (To.g (Jal fun b8=>?_))
 refine Jz 5 ?_
 refine To.one 1 rfl (ro (some ⟨b,0,none⟩) [vs A ps q]) rfl (pgk_b) (To.one 2 rfl (ros encPP A ps) rfl (pgk_r) (Jz 2 ?_))
 refine Jr (Rd.eqlNil rfl underlying27 rfl rfl) ?_
 refine Jz 4 ?_
 refine JgP ?_ ?_<;>intro g18
 exact absurd g18 om
 refine Jz 4 ?_
 refine Jr (Rd.ld (i:=1) rfl rfl c158 rfl (ro_gives (A:=some ⟨b,0,none⟩) (o:=0) (k:=1) rfl)) ?_
 refine Jz 5 ?_
 refine Jcp rfl ?_ ?_<;>intro k26
 exact absurd k26 om
 refine Jz 7 ?_
 refine Jr (Rd.ld (i:=1) rfl rfl c158 rfl (ro_gives (A:=some ⟨b,0,none⟩) (o:=0) (k:=1) rfl)) ?_
 refine Jz 3 ?_
 refine Jal fun b10=>?_
 refine Jz 8 ?_
 refine JgP ?_ ?_<;>intro g37
 refine Jz 34 ?_
 refine Jr (.bd [.int .i64 0, .int .i64 0, .slice none 0 0]) ?_
 refine Jz 6 ?_
 refine JendCT [] rfl (.inl rfl) results15 rfl (i:=3) rfl r42 rfl rfl ?_
 exact⟨rfl,rfl⟩
 refine Jz 6 ?_
 refine JgP ?_ ?_<;>intro g44
 refine Jz 27 ?_
 refine Jr (.bd [.int .i64 0, .int .i64 0, .slice none 0 0]) ?_
 refine Jz 6 ?_
 refine JendCT [] rfl (.inl rfl) results15 rfl (i:=3) rfl r42 rfl rfl ?_
 exact⟨rfl,rfl⟩
 refine Jz 3 ?_
 refine JgP ?_ ?_<;>intro g48
 refine Jz 23 ?_
 refine Jr (.bd [.int .i64 0, .int .i64 0, .slice none 0 0]) ?_
 refine Jz 6 ?_
 refine JendCT [] rfl (.inl rfl) results15 rfl (i:=3) rfl r42 rfl rfl ?_
 exact⟨rfl,rfl⟩
 refine Jz 6 ?_
 refine JgP ?_ ?_<;>intro g55
 refine Jz 16 ?_
 refine Jr (.bd [.int .i64 0, .int .i64 0, .slice none 0 0]) ?_
 refine Jz 6 ?_
 refine JendCT [] rfl (.inl rfl) results15 rfl (i:=3) rfl r42 rfl rfl ?_
 exact⟨rfl,rfl⟩
 exact absurd hbad om
theorem rcompileX_fn(F:Fl)(x v h:Int)(hx:x<0∨(F.comps.length:Int)≤x):
    Dz 14 [.agg (cF F []).toArray, .int .i64 x, .int .i64 v, .int .i64 h] [all (Fl.kids eR F)] (fun v Γ'=>v= .tuple #[.agg #[.int .i64 0, .int .i64 0, .slice none 0 0], .bool false]∧Γ'=[]):=by
 refine Does.en func14 ntmps14 fun w0=>?_
 refine Js (To.g (Jbo fun b4=>?_))
 refine Jal fun b8=>?_
 refine Jz 8 ?_
 refine JgP ?_ ?_<;>intro g17
 refine Jz 26 ?_
 refine Jr (.bd [.int .i64 0, .int .i64 0, .slice none 0 0]) ?_
 refine Jz 6 ?_
 refine JendCT [] rfl (.inl rfl) results14 rfl (i:=0) rfl r37 rfl rfl ?_
 exact⟨rfl,rfl⟩
 refine Jz 6 ?_
 refine JgP ?_ ?_<;>intro g24
 refine Jz 19 ?_
 refine Jr (.bd [.int .i64 0, .int .i64 0, .slice none 0 0]) ?_
 refine Jz 6 ?_
 refine JendCT [] rfl (.inl rfl) results14 rfl (i:=0) rfl r37 rfl rfl ?_
 exact⟨rfl,rfl⟩
 exact absurd hx om
theorem rcompileV_fn(F:Fl)(hG:GoodF F.pure)(ci:Nat)(c:Cm)(hc:F.comps[ci]?=some c)(v h:Int)(hv:v<1∨(c.vers.length:Int)<v):
    Dz 14 [.agg (cF F []).toArray,nv ci, .int .i64 v, .int .i64 h] [all (Fl.kids eR F)] (fun v Γ'=>v= .tuple #[.agg #[.int .i64 0, .int .i64 0, .slice none 0 0], .bool false]∧Γ'=[]):=by
 have hci:ci<F.comps.length:=(List.getElem?_eq_some_iff.1 hc).1
 have hB:=bndF_of hG
 have hcb:=hB.each c (mog hc)
 have hcm:=hB.comps
 refine Does.en func14 ntmps14 fun w0=>?_
 refine Js (To.g (Jbo fun b4=>?_))
 refine Jal fun b8=>?_
 refine Jz 5 ?_
 refine To.one 2 rfl (ros encC F.Ac F.comps) rfl (fl_comps F) (Jz 3 ?_)
 refine JgP ?_ ?_<;>intro g17
 exact absurd g17 om
 refine Jz 6 ?_
 refine JgP ?_ ?_<;>intro g24
 exact absurd g24 om
 refine Jz 3 ?_
 refine JgP ?_ ?_<;>intro g28
 refine Jz 15 ?_
 refine Jr (.bd [.int .i64 0, .int .i64 0, .slice none 0 0]) ?_
 refine Jz 6 ?_
 refine JendCT [] rfl (.inl rfl) results14 rfl (i:=1) rfl r37 rfl rfl ?_
 exact⟨rfl,rfl⟩
 refine Jz 12 ?_
 refine Jcp rfl ?_ ?_<;>intro k38
 refine Js (To.g (Jr (.bd [.int .i64 0, .int .i64 0, .slice none 0 0]) ?_))
 refine Jz 6 ?_
 refine JendCT [] rfl (.inl rfl) results14 rfl (i:=1) rfl r37 rfl rfl ?_
 exact⟨rfl,rfl⟩
 exact absurd hv om
theorem rcompileH_fn(F:Fl)(hG:GoodF F.pure)(ci:Nat)(c:Cm)(hc:F.comps[ci]?=some c)(vn:Nat)(hvn:1≤vn∧vn≤c.vers.length)(h:Int)(hh:h<0∨((hnames (c.vers.map Vs.pure)).length:Int)≤h):
    Dz 14 [.agg (cF F []).toArray,nv ci,nv vn, .int .i64 h] [all (Fl.kids eR F)] (fun v Γ'=>v= .tuple #[.agg #[.int .i64 0, .int .i64 0, .slice none 0 0], .bool false]∧Γ'=[]):=by
 have hci:ci<F.comps.length:=(List.getElem?_eq_some_iff.1 hc).1
 have hB:=bndF_of hG
 have hcb:=hB.each c (mog hc)
 have hcm:=hB.comps
 refine Does.en func14 ntmps14 fun w0=>?_
 refine Js (To.g (Jbo fun b4=>?_))
 refine Jal fun b8=>?_
 refine Jz 5 ?_
 refine To.one 2 rfl (ros encC F.Ac F.comps) rfl (fl_comps F) (Jz 3 ?_)
 refine JgP ?_ ?_<;>intro g17
 exact absurd g17 om
 refine Jz 6 ?_
 refine JgP ?_ ?_<;>intro g24
 exact absurd g24 om
 refine Jz 3 ?_
 refine JgP ?_ ?_<;>intro g28
 exact absurd g28 om
 refine Jz 12 ?_
 refine Jcp rfl ?_ ?_<;>intro k38
 exact absurd k38 om
 refine Jz 3 ?_
 refine Jpart 3 rfl (c.kids eR) (c.lax eR) (fun z hz=>fl_cm hc hz) (Jz 6 ?_)
 refine Jcf [0] (handlersN_fn c hcb.2.1 hcb.2.2) ?_
 rintro _ _ ⟨Ah,qh,rfl,rfl⟩
 refine Jz 8 ?_
 refine JgP ?_ ?_<;>intro g48
 refine Jz 10 ?_
 refine Jr (.bd [.int .i64 0, .int .i64 0, .slice none 0 0]) ?_
 refine Jz 6 ?_
 refine JendCT [] rfl (.inl rfl) results14 rfl (i:=2) rfl r37 rfl rfl ?_
 exact⟨rfl,rfl⟩
 refine Jz 7 ?_
 refine Jcp rfl ?_ ?_<;>intro k53
 refine Js (To.g (Jr (.bd [.int .i64 0, .int .i64 0, .slice none 0 0]) ?_))
 refine Jz 6 ?_
 refine JendCT [] rfl (.inl rfl) results14 rfl (i:=2) rfl r37 rfl rfl ?_
 exact⟨rfl,rfl⟩
 exact absurd hh om
end Go.Proofs.YtllalpnmagpkfaaGreatDoor

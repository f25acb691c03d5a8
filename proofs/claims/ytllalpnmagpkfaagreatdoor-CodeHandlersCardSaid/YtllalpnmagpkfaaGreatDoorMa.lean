/- Own text. -/
import Derived.Test.YtllalpnmagpkfaaGreatDoorWe
set_option linter.unusedVariables false
set_option linter.unusedSimpArgs false
set_option maxHeartbeats 2000000
set_option maxRecDepth 100000
namespace Go.Proofs.YtllalpnmagpkfaaGreatDoor
open Go.Proofs.Tryz
open Go.RowKit Go.Flow Go.Mem Go.Sep Go.In
theorem heightsR{F:Fl}(h:GoodF F.pure){ci:Nat}{c:Cm}(hc:F.comps[ci]?=some c){v:Vs}(hv:v∈c.vers){x:Hd}(hx:x∈v.l):∃t:Int,heightsV (codeR F c x)=(t,true)∧0≤t∧t≤10:=by
 obtain⟨ct,ar,ok⟩:=h.okC (pure_comp hc)
 have hgv:=ok.vers v.pure (List.mem_map.2 ⟨v,hv,rfl⟩)
 obtain⟨k,hk⟩:=List.getElem?_of_mem hx
 have gh:=hgv.2.2 k x.pure (by show(v.l.map Hd.pure)[k]?=_;rw[List.getElem?_map,hk];rfl)
 obtain⟨np,hnp,hps,hst⟩:=gh.ps
 have hst:∀s∈St.pL x.body,StE ct np 3 s:=hst
 exact body_heights (ccR_loads F.pure c.name c.vars x.ps) fun s hs=>(hst s hs).wf ok.ok
theorem prog_at{F:Fl}{ps:List PP}(hP:ProgOk F ps){ci:Nat}{c:Cm}(hc:F.comps[ci]?=some c):∃p,ps[ci]?=some p∧PPOk F c p:=by
 have hl:ci<ps.length:=by rw[hP.len];exact(List.getElem?_eq_some_iff.1 hc).1
 exact⟨_,gge hl,hP.inv ci c _ hc (gge hl)⟩
theorem unit_at{F:Fl}{c:Cm}{p:PP}(hp:PPOk F c p){n:Nat}(hn:n<c.vers.length){h:Nat}{s:ByteArray}(hs:p.names[h]?=some s):
    ∃v f u t,p.us[n]?=some v∧p.fs[n]?=some f∧v.l[h]?=some u∧f.l[h]?=some t∧UAt F c u t (fndV s none (c.vers.take (n+1))):=by
 have h1:n<p.us.length:=by rw[hp.ul];exact hn
 have h2:n<p.fs.length:=by rw[hp.fl];exact hn
 have hi:=hp.inv n _ _ (gge h1) (gge h2)
 obtain⟨u,t,h3,h4,h5⟩:=hi.at_ h s hs
 exact⟨_,_,u,t,gge h1,gge h2,h3,h4,h5⟩
theorem names_le{F:Fl}(h:GoodF F.pure){ci:Nat}{c:Cm}(hc:F.comps[ci]?=some c){p:PP}(hp:PPOk F c p):∃nn,p.names=nms 104 nn∧nn≤3∧CmW c nn:=by
 obtain⟨nn,hW⟩:=cmW h hc
 exact⟨nn,hp.names.trans hW.hn,hW.n3,hW⟩
theorem UAt.some{F:Fl}{c:Cm}{u:PU}{s:ByteArray}{l:List Vs}(h:UAt F c u true (fndV s none l)):∃v x A q,v∈l∧x∈v.l∧fndV s none l= .some x∧u=puOf F c x A q:=by
 cases e:fndV s none l with
 |none=>rw[e]at h;exact absurd h.2 (by decide)
 | some x=>
   rw[e]at h
   obtain⟨_,A,q,hu⟩:=h
   rcases fndV_mem e with h1|⟨v,hv,hx⟩
   ·cases h1
   ·exact⟨v,x,A,q,hv,hx,rfl,hu⟩
theorem To.endTC{P:Program}{C:Cx}{ρ:Slots}{Γ Δ E:List Chunk}{R:Value→List Chunk→Prop}{fn:Func}{ex:Exit}{t b n i u:Nat}{ty ty':TypeId}{cs:List Value}{v:Value}(is:List Nat)(hpl:pull Γ is=some (Δ,E))(hex:ex= .ret∨ex= .normal)(hres:fn.results=#[.tmp u, .cell t ty])(hv:Sep.look ρ t=some (pv b))
    (hi:Γ[i]?=some (box b cs ty')) (ht:RowTy P ty n) (hl:cs.length=n) (hu:Sep.look ρ u=some v) (h:R (.tuple #[v, .agg cs.toArray]) Δ) (hds:C.ds=[]:=by rfl):To C ρ Γ (bodyPost P fn (Fin C R) ex):=fun a w ha hp=>by
 have hr:(results fn a.tmps).run P w= .ok (.tuple #[v, .agg cs.toArray]) w:=by
  obtain⟨d,h1,h2,h3⟩:=ht
  have hw:=hp.sat.each _ (mog hi)
  have:=run_loadVar_mid (P:=P) w b 0 ty cs d (range_of_whole hw) h1 h2 (by rw[hl];exact h3)
  have he:a.tmps[t]?.getD undef=pv b:=by rw[ha.sees t _ hv];rfl
  have he2:a.tmps[u]?.getD undef=v:=by rw[ha.sees u _ hu];rfl
  simp[results,hres,he,he2,asAddr,this]
 have hq:Post C.Γ0 Δ C.w0 w:=(hp.perm (pull_perm hpl)).drop
 rcases hex with rfl|rfl
 ·exact⟨ha.defers.trans hds,_,hr,_,Δ,rfl,h,hq⟩
 ·exact⟨ha.defers.trans hds,_,hr,_,Δ,rfl,h,hq⟩
theorem made_fn(p:Pl)(hp:p.Ok):
    Dz 13 [.agg (cL p []).toArray] [all p.kids,glc,p10c,tabC] (fun v Γ'=>∃(F F':Fl) (b:Nat) (A:OA) (q:Nat) (ps:List PP),v= .tuple #[pv b, .agg F.cells.toArray]∧Γ'=[all (pgk b A q ps),all (F.kids eR)]∧GoodF F.pure∧F'.pure=F.pure∧ProgOk F' ps):=by
 refine Does.en func13 ntmps13 fun w0=>?_
 refine Js (To.g (Jbo fun b1=>?_))
 refine To.a ?_
 refine Jal fun b3=>?_
 refine Jz 5 ?_
 refine Jcf [2] (build_fn p hp) ?_
 rintro _ _ ⟨F,rfl,rfl,hG⟩
 refine Jal fun b4=>?_
 refine Jz 4 ?_
 have hX:=goodX hG
 refine Jpart 1 rfl (F.kids eR) (Fl.lax eR F) (fun z hz=>hz) (Jz 2 ?_)
 refine Jcf [0] (qsyntax_fn F hX.low) ?_
 rintro _ _ ⟨F',rfl,rfl,hCap,hpu⟩
 refine Jcf [0,4,4,4] (compile_fn F' (by rw[hpu];exact hG) (goodX (by rw[hpu];exact hG)) hCap) ?_
 rintro _ _ ⟨b,A,q,ps,rfl,rfl,hP⟩
 refine Jz 18 ?_
 refine Jfw [] [0,2,101,503] (ocn _) ?_
 refine Jz 3 ?_
 refine Fw.up rfl rfl rfl (Up.storeS (i:=3) rfl rfl rfl r32 rfl rfl rfl (bta rfl)) (ocn _) ?_
 refine Jz 3 ?_
 refine To.endTC [0,1] rfl (.inl rfl) results13 rfl (i:=3) rfl r32 rfl rfl ?_
 exact⟨F,F',b,A,q,ps,rfl,rfl,hG,hpu,hP⟩
end Go.Proofs.YtllalpnmagpkfaaGreatDoor

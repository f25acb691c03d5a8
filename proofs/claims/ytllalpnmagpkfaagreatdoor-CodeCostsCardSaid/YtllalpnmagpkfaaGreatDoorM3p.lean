/- A handler's code has one Cost for each of its statements; plain. Own text. -/
import Derived.Test.YtllalpnmagpkfaaGreatDoorM2p
set_option linter.unusedVariables false
set_option linter.unusedSimpArgs false
namespace Go.Proofs.YtllalpnmagpkfaaGreatDoor
open Go.Proofs.Tryz
open Go.RowKit Go.Flow Go.Mem Go.Sep Go.In
def costs(l:List Ins):Nat:=(l.filter fun x=>decide (x.op=29)).length
theorem costs_app(l m:List Ins):costs (l++m)=costs l+costs m:=by simp[costs]
theorem costs_cons(x:Ins)(l:List Ins):costs (x::l)=(if x.op=29 then 1 else 0)+costs l:=by
 unfold costs
 by_cases h:x.op=29
 ·simp[h];omega
 ·simp[h]
theorem costs_one{x:Ins}(h:x.op≠29):costs [x]=0:=by rw[costs_cons,if_neg h];rfl
theorem opI_cost{c:Cc}(hc:c.Loads){op:Nat}(s:ByteArray)(n:Int)(h:(1≤op∧op≤23)):costs [opI c op s n]=0:=by
 have h0:=hc s
 refine costs_one ?_
 unfold opI
 split
 ·show(1:Nat)≠29;decide
 · split
   ·show(1:Nat)≠29;decide
   · split
     ·show(1:Nat)≠29;decide
     · split
       ·show(5:Nat)≠29;decide
       · split
         ·omega
         · split
           ·show op≠29;omega
           ·show op≠29;omega
theorem WfE.cost{c:Cc}(hc:c.Loads){d:Nat}{e:PE}(h:WfE d e):costs (cE c e)=0:=by
 induction h with
 |leaf d op s n h=>exact opI_cost hc s n om
 | un d op s n a h ha ih=>
   show costs ((cE c a++[])++[opI c op s n])=0
   rw[costs_app,costs_app,ih,opI_cost hc s n om];rfl
 | bin d op s n a b h ha hb iha ihb=>
   show costs ((cE c a++(cE c b++[]))++[opI c op s n])=0
   rw[costs_app,costs_app,costs_app,iha,ihb,opI_cost hc s n om];rfl
theorem cEs_cost{c:Cc}(hc:c.Loads){d:Nat}:∀(l:List PE),(∀e∈l,WfE d e)→costs (cEs c l)=0
 |[],_=>rfl
 | e::r,h=>by
   show costs (cE c e++cEs c r)=0
   rw[costs_app,(h e (List.mem_cons_self ..)).cost hc,cEs_cost hc r fun x hx=>h x (List.mem_cons_of_mem _ hx)]
theorem hd_cost{c:Cc}(hc:c.Loads){d:Nat}{es:List PE}(h:∀e∈es,WfE d e)(X:List Ins):costs (hdC c es++X)=1+costs X:=by
 show costs ((⟨29,0,0,0⟩:Ins)::(cEs c es++X))=_
 rw[costs_cons,costs_app,cEs_cost hc es h,if_pos rfl,Nat.zero_add]
theorem ovr_cost(p:Nat){c:Cc}(e:List PS)(q:Nat):costs (ovr p (cB c e q) e.isEmpty)=costs (cB c e q):=by
 cases e with
 |nil=>rfl
 | cons a r=>
   show costs ((⟨27,((p+1+(cB c (a::r) q).length:Nat):Int),0,0⟩:Ins)::cB c (a::r) q)=_
   rw[costs_cons,if_neg (show¬(27:Nat)=29 by decide),Nat.zero_add]
theorem cB_cost{c:Cc}:∀(l:List PS) (p:Nat),(∀s∈l,∀p,costs (cS c s p)=s.cnt)→costs (cB c l p)=PS.cntL l
 |[],p,_=>rfl
 | s::r,p,h=>by
   show costs (cS c s p++cB c r _)=s.cnt+PS.cntL r
   rw[costs_app,h s (List.mem_cons_self ..),cB_cost r _ fun x hx=>h x (List.mem_cons_of_mem _ hx)]
theorem cS_cost{c:Cc}(hc:c.Loads){s:PS}(h:WfS s):∀p,costs (cS c s p)=s.cnt:=by
 induction h with
 | one k s h es hk he=>
   intro p
   have e:(PS.cnt ⟨k,s,h,es,[],[]⟩)=1:=rfl
   rw[e]
   rcases hk with⟨rfl,_⟩|⟨rfl,_⟩|⟨rfl,_⟩|⟨rfl,_⟩|⟨rfl,_⟩
   ·show costs (hdC c es++[(⟨24,c.vs s,0,0⟩:Ins)])=1;rw[hd_cost hc he,costs_one (show(24:Nat)≠29 by decide)]
   ·show costs (hdC c es++[(⟨25,c.ts s,0,0⟩:Ins)])=1;rw[hd_cost hc he,costs_one (show(25:Nat)≠29 by decide)]
   ·show costs (hdC c es++[(⟨26,c.ts s,0,0⟩:Ins)])=1;rw[hd_cost hc he,costs_one (show(26:Nat)≠29 by decide)]
   ·show costs (hdC c es++[(⟨30,(c.tg s h).1,(c.tg s h).2,((es.length:Nat):Int)⟩:Ins)])=1;rw[hd_cost hc he,costs_one (show(30:Nat)≠29 by decide)]
   ·show costs (hdC c es++[(⟨31,0,c.ah h,((es.length:Nat):Int)-1⟩:Ins)])=1;rw[hd_cost hc he,costs_one (show(31:Nat)≠29 by decide)]
 | ife s h a t e ha ht he iht ihe=>
   intro p
   show costs (hdC c [a]++((⟨28,_,0,0⟩:Ins)::(cB c t _++ovr _ (cB c e _) e.isEmpty)))=1+PS.cntL t+PS.cntL e
   rw[hd_cost hc (one1 ha),costs_cons,costs_app,ovr_cost,cB_cost t _ iht,cB_cost e _ ihe,if_neg (show¬(28:Nat)=29 by decide)];omega
 | whl s h a t ha ht iht=>
   intro p
   show costs (hdC c [a]++((⟨28,_,0,0⟩:Ins)::(cB c t _++[(⟨27,((p:Nat):Int),0,0⟩:Ins)])))=1+PS.cntL t+0
   rw[hd_cost hc (one1 ha),costs_cons,costs_app,cB_cost t _ iht,costs_one (show(27:Nat)≠29 by decide),if_neg (show¬(28:Nat)=29 by decide)];omega
 | sto s h a b e ha hb he ihe=>
   intro p
   show costs (hdC c [a,b]++((⟨32,0,_,0⟩:Ins)::ovr _ (cB c e _) e.isEmpty))=1+0+PS.cntL e
   rw[hd_cost hc (two2 ha hb),costs_cons,ovr_cost,cB_cost e _ ihe,if_neg (show¬(32:Nat)=29 by decide)];omega
 | fet s h a e ha he ihe=>
   intro p
   show costs (hdC c [a]++((⟨33,_,_,0⟩:Ins)::ovr _ (cB c e _) e.isEmpty))=1+0+PS.cntL e
   rw[hd_cost hc (one1 ha),costs_cons,ovr_cost,cB_cost e _ ihe,if_neg (show¬(33:Nat)=29 by decide)];omega
 | stop s h=>
   intro p
   show costs (hdC c []++[(⟨34,0,0,0⟩:Ins)])=1
   rw[hd_cost (d:=0) hc (fun e he=>by cases he),costs_one (show(34:Nat)≠29 by decide)]
theorem code_cost{F:Fl}(h:GoodF F.pure){ci:Nat}{c:Cm}(hc:F.comps[ci]?=some c){v:Vs}(hv:v∈c.vers){x:Hd}(hx:x∈v.l):costs (codeR F c x)=PS.cntL (St.pL x.body):=by
 obtain⟨ct,ar,ok⟩:=h.okC (pure_comp hc)
 have hgv:=ok.vers v.pure (List.mem_map.2 ⟨v,hv,rfl⟩)
 obtain⟨k,hk⟩:=List.getElem?_of_mem hx
 have gh:=hgv.2.2 k x.pure (by show(v.l.map Hd.pure)[k]?=_;rw[List.getElem?_map,hk];rfl)
 obtain⟨np,hnp,hps,hst⟩:=gh.ps
 have hst:∀s∈St.pL x.body,StE ct np 3 s:=hst
 exact cB_cost _ _ fun s hs=>cS_cost (ccR_loads F.pure c.name c.vars x.ps) ((hst s hs).wf ok.ok)
theorem fndH_none{s:ByteArray}:∀{l:List Hd} {o:Option Hd},(∀x∈l,x.name≠s)→fndH s o l=o
 |[],_,_=>rfl
 |y::r,o,h=>by rw[fndH_cons,if_neg (h y (List.mem_cons_self ..))];exact fndH_none fun x hx=>h x (List.mem_cons_of_mem _ hx)
theorem fndH_at{l:List Hd}(hn:∀(m:Nat) (y:Hd),l[m]?=some y→y.name=nm 104 m∧m<3){m:Nat}{y:Hd}(hy:l[m]?=some y):fndH (nm 104 m) none l=some y:=by
 have e:l=l.take m++y::l.drop (m+1):=by
  have h1:m<l.length:=(List.getElem?_eq_some_iff.1 hy).1
  rw[←(List.getElem?_eq_some_iff.1 hy).2,List.getElem_cons_drop,List.take_append_drop]
 rw[e]
 unfold fndH
 rw[List.foldl_append,List.foldl_cons,if_pos (hn m y hy).1]
 refine fndH_none (o:=some y) fun x hx h=>?_
 obtain⟨j,hj⟩:=List.getElem?_of_mem hx
 rw[List.getElem?_drop]at hj
 obtain⟨a,b⟩:=hn _ _ hj
 rw[a]at h
 have:=(nm_inj (by decide) (by decide) om (by have:=(hn m y hy).2;omega) h).2
 omega
theorem costs_take{l:List Ins}{j:Nat}{z:Ins}(h:l[j]?=some z):costs (l.take (j+1))=costs (l.take j)+(if z.op=29 then 1 else 0):=by rw[take_of_get h,costs_app,costs_cons];rfl
theorem costs_le(l:List Ins):costs l≤l.length:=List.length_filter_le ..
theorem map_at{α β:Type}{f:α→β}{l m:List α}(h:l.map f=m.map f){i:Nat}{x:α}(hx:l[i]?=some x):∃y,m[i]?=some y∧f y=f x:=by
 have h1:(m.map f)[i]?=some (f x):=by rw[←h,List.getElem?_map,hx];rfl
 rw[List.getElem?_map]at h1
 exact Option.map_eq_some_iff.1 h1
section
variable{F:Fl}{ps:List PP}{k:Nat}{c:Cm}
theorem pU_one(hG:GoodF F.pure)(hc:F.comps[k]?=some c){v0:Vs}(h0:c.vers[0]?=some v0){m:Nat}{y:Hd}(hy:v0.l[m]?=some y):pU F c 1 (nm 104 m)=⟨true,y.ps.length,(heightsV (codeR F c y)).1,codeR F c y⟩:=by
 obtain⟨nn,hW⟩:=cmW hG hc
 have hl:=(List.getElem?_eq_some_iff.1 h0).1
 have e:fndV (nm 104 m) none (c.vers.take 1)=some y:=by
  rw[fndV_snoc (nm 104 m) none h0]
  exact fndH_at (fun j z hz=>by have h1:=hW.each v0 (mog h0) j z hz;have h2:=hW.n3;exact⟨h1.1,by have:=h1.2;omega⟩) hy
 unfold pU
 rw[if_neg om,e]
theorem punit1_at(b:Nat)(A:OA)(q:Nat)(hP:ProgOk F ps)(hG:GoodF F.pure)(hc:F.comps[k]?=some c){v0:Vs}(h0:c.vers[0]?=some v0){m:Nat}{y:Hd}(hy:v0.l[m]?=some y)(hs:(hnames (c.vers.map Vs.pure))[m]?=some (nm 104 m)):
    Dz 15 [pv b,nv k, .int .i64 1,nv m] [all (pgk b A q ps)] (fun r Γ'=>∃(B:OA) (n:Nat),r= .tuple #[.agg #[nv y.ps.length, .int .i64 (heightsV (codeR F c y)).1, .slice B (codeR F c y).length n], .bool true]∧Γ'=[rows Ins.cells 109 4 B n (codeR F c y)]):=by
 have h:=punit_at b A q hP hG hc hs 1
 rw[pU_one hG hc h0 hy]at h
 exact h
end
end Go.Proofs.YtllalpnmagpkfaaGreatDoor

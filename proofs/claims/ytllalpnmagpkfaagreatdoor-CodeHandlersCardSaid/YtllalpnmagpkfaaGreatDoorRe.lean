/- Own text. -/
import Derived.Test.YtllalpnmagpkfaaGreatDoorRc
set_option maxHeartbeats 8000000
set_option maxRecDepth 100000
set_option linter.unusedVariables false
set_option linter.unusedSimpArgs false
namespace Go.Proofs.YtllalpnmagpkfaaGreatDoor
open Go.Proofs.Tryz
open Go.RowKit Go.Flow Go.Mem Go.Sep Go.In
theorem pure_comp{F:Fl}{ci:Nat}{c:Cm}(hc:F.comps[ci]?=some c):F.pure.comps[ci]?=some c.pure:=by
 show(F.comps.map Cm.pure)[ci]?=_
 rw[List.getElem?_map,hc];rfl
theorem varsOf_len(a b:Nat):(varsOf a b).length=a+1+b:=by
 unfold varsOf;simp only[lap,List.length_map,List.length_range,lc1,ln0]
theorem bndF_of{F:Fl}(h:GoodF F.pure):BndF F:=by
 obtain⟨ars,ho,hl,hg⟩:=h.comps
 refine⟨by have:F.flags.length≤2:=h.flags.1;omega,?_,fun c hc=>?_⟩
 · have h1:(F.comps.map Cm.pure).length=ars.length:=hl
   rw[List.length_map]at h1;have:=ho.1.2;omega
 · obtain⟨i,hi⟩:=List.getElem?_of_mem hc
   have g:=hg i _ (pure_comp hi)
   obtain⟨ints,tables,ar,hin,ht,ha,hv,hvs,hvn,hx⟩:=g.vers
   have har:=(ho.2 ar (mog ha)).2.1
   refine⟨?_,?_,fun v hv'=>?_⟩
   · have h2:c.vars=varsOf ints tables:=hv
     rw[h2,varsOf_len];omega
   · have h3:(c.vers.map Vs.pure).length≤2:=hvn.2
     rw[List.length_map]at h3;omega
   · have h4:=(hvs v.pure (List.mem_map.2 ⟨v,hv',rfl⟩)).2.1
     have h5:v.pure.length=v.l.length:=List.length_map ..
     omega
abbrev codeR(F:Fl)(c:Cm)(x:Hd):List Ins:=cB (ccR F.pure c.name c.vars x.ps) (St.pL x.body) 0
structure GoodCode(F:Fl)(c:Cm)(x:Hd):Prop where
 ps:x.ps.length≤2
 len:(codeR F c x).length≤3816
 form:∀i∈codeR F c x,formR ((x.ps.length:Nat):Int) (codeR F c x).length i=true
theorem good_code{F:Fl}(h:GoodF F.pure){ci:Nat}{c:Cm}(hc:F.comps[ci]?=some c){v:Vs}(hv:v∈c.vers){x:Hd}(hx:x∈v.l):GoodCode F c x:=by
 obtain⟨ct,ar,ok⟩:=h.okC (pure_comp hc)
 have hgv:=ok.vers v.pure (List.mem_map.2 ⟨v,hv,rfl⟩)
 obtain⟨k,hk⟩:=List.getElem?_of_mem hx
 have gh:=hgv.2.2 k x.pure (by show(v.l.map Hd.pure)[k]?=_;rw[List.getElem?_map,hk];rfl)
 obtain⟨np,hnp,hps,hst⟩:=gh.ps
 have hnp2:np≤2:=(ok.ok.each ar (mog ok.arr)).2.2 np (mog hnp)
 have hps:x.ps=nms 112 np:=hps
 have hst:∀s∈St.pL x.body,StE ct np 3 s:=hst
 have hcn:PS.cntL (St.pL x.body)≤12:=gh.cnt
 have his:(ccR F.pure c.name c.vars (nms 112 np)).Is ct np:=ok.isR hnp2
 have hwf:∀s∈St.pL x.body,WfS s:=fun s hs=>(hst s hs).wf ok.ok
 have hpl:x.ps.length=np:=by rw[hps,nms_len]
 have hlen:(codeR F c x).length≤318*PS.cntL (St.pL x.body):=cB_len _ _ fun s hs=>cS_len (hwf s hs)
 have fe:=form_each ok.ok (np:=np) (n:=(codeR F c x).length) om
 refine⟨by omega,by omega,?_⟩
 rw[hpl]
 have e1:codeR F c x=cB (ccR F.pure c.name c.vars (nms 112 np)) (St.pL x.body) 0:=by show cB (ccR F.pure c.name c.vars x.ps) _ _=_;rw[hps]
 have:=cB_all (Q:=fun i=>formR ((np:Nat):Int) (codeR F c x).length i=true) (n:=(codeR F c x).length) (St.pL x.body) 0 (cc:=ccR F.pure c.name c.vars (nms 112 np)) (fun s hs p hp=>(hst s hs).all ok.ok fe.1 fe.2 his p hp) (by rw[←e1];omega)
 rw[←e1]at this
 exact this
theorem fndH_mem{s:ByteArray}{x:Hd}:∀{l:List Hd} {o:Option Hd},fndH s o l=some x→o=some x∨x∈l
 |[],o,h=> .inl h
 | a ::r,o,h=>by
   rw[fndH_cons]at h
   rcases fndH_mem h with h|h
   · split at h
     ·cases h;exact .inr (List.mem_cons_self ..)
     ·exact .inl h
   ·exact .inr (List.mem_cons_of_mem _ h)
theorem fndV_mem{s:ByteArray}{x:Hd}:∀{l:List Vs} {o:Option Hd},fndV s o l=some x→o=some x∨∃v∈l,x∈v.l
 |[],o,h=> .inl h
 | a ::r,o,h=>by
   rw[fndV_cons]at h
   rcases fndV_mem h with h|⟨v,hv,hx⟩
   · rcases fndH_mem h with h|h
     ·exact .inl h
     ·exact .inr ⟨a,List.mem_cons_self ..,h⟩
   ·exact .inr ⟨v,List.mem_cons_of_mem _ hv,hx⟩
theorem fnd_good{F:Fl}(h:GoodF F.pure){ci:Nat}{c:Cm}(hc:F.comps[ci]?=some c){vn:Nat}{s:ByteArray}{x:Hd}(hf:fndV s none (c.vers.take vn)=some x):∃v∈c.vers,x∈v.l:=by
 rcases fndV_mem hf with hf|⟨v,hv,hx⟩
 ·cases hf
 ·exact⟨v,List.mem_of_mem_take hv,hx⟩
structure RU where
 ok:Bool
 np:Nat
 st:Int
 l:List Ins
def rU(F:Fl)(c:Cm)(vn:Nat)(s:ByteArray):RU:=match fndV s none (c.vers.take vn)with
 |none=>⟨false,0,0,[]⟩
 |some x=>⟨true,x.ps.length,(heightR (codeR F c x)).1,codeR F c x⟩
theorem rcompile_fn(F:Fl)(hG:GoodF F.pure)(ci:Nat)(c:Cm)(hc:F.comps[ci]?=some c)(vn h:Nat)(hvn:1≤vn∧vn≤c.vers.length)(hh:h<(hnames (c.vers.map Vs.pure)).length)(s:ByteArray)(hs:(hnames (c.vers.map Vs.pure))[h]?=some s):
    Dz 14 [.agg (cF F []).toArray,nv ci,nv vn,nv h] [all (Fl.kids eR F)] (fun v Γ'=>∃(A:OA) (q:Nat),v= .tuple #[.agg #[nv ((rU F c vn s).np), .int .i64 (rU F c vn s).st, .slice A (rU F c vn s).l.length q], .bool (rU F c vn s).ok]∧Γ'=[rows Ins.rc 54 4 A q (rU F c vn s).l]):=by
 have hci:ci<F.comps.length:=(List.getElem?_eq_some_iff.1 hc).1
 have hB:=bndF_of hG
 have hcb:=hB.each c (mog hc)
 have hcm:=hB.comps
 refine Does.en func14 ntmps14 fun w0=>?_
 refine Js (To.g (Jbo fun b4=>?_))
 refine Jal fun b8=>?_
 refine Jz 5 ?_
 refine To.one 2 rfl (ros encC F.Ac F.comps) rfl (fl_comps F) (Jz 3 ?_)
 refine JgP ?_ ?_<;>intro g17
 exact absurd g17 om
 refine Jz 6 ?_
 refine JgP ?_ ?_<;>intro g24
 exact absurd g24 om
 refine Jz 3 ?_
 refine JgP ?_ ?_<;>intro g28
 exact absurd g28 om
 refine Jz 12 ?_
 refine Jcp rfl ?_ ?_<;>intro c38
 exact absurd c38 om
 refine Jz 3 ?_
 refine Jpart 3 rfl (c.kids eR) (c.lax eR) (fun z hz=>fl_cm hc hz) (Jz 6 ?_)
 refine Jcf [0] (handlersN_fn c hcb.2.1 hcb.2.2) ?_
 rintro _ _ ⟨Ah,qh,rfl,rfl⟩
 refine Jz 8 ?_
 refine JgP ?_ ?_<;>intro g48
 exact absurd g48 om
 refine Jz 7 ?_
 refine Jcp rfl ?_ ?_<;>intro c53
 exact absurd c53 om
 refine Jz 3 ?_
 refine Jpart 4 rfl (c.kids eR) (c.lax eR) (fun z hz=>fl_cm hc hz) (Jflow [] [⟨0,[],0⟩,⟨2,[],0⟩,⟨5,[],0⟩,⟨6,[],0⟩,⟨7,[],0⟩,⟨1,[],1⟩,⟨3,[],1⟩,⟨4,[],1⟩,⟨8,[],1⟩,⟨9,[],1⟩,⟨10,[],4⟩,⟨11,[10],0⟩,⟨12,[10],0⟩,⟨13,[10],0⟩,⟨14,[],2⟩,⟨15,[10,14],5⟩,⟨16,[],0⟩] mixed.h (by kernel_rfl) (ocn _) (Jz 10 ?_))
 refine Fw.callM rfl rfl rfl rfl rfl .fc (find_fn c hcb.2.1 hcb.2.2 vn s) (by show owns (c.kids eR)++[]=[];rw[(c.lax eR).owns];rfl) (ocs (oca 0 rfl) (ocn _)) ?_
 rintro _ _ ⟨rfl,rfl⟩
 refine⟨rfl,?_⟩
 refine Jz 3 ?_
 refine Fw.mk rfl rfl rfl rfl rfl (Mk.alloc rfl z149) ?_
 rintro _ _ ⟨b11,rfl,rfl⟩
 refine Fw.up rfl rfl rfl (Up.storeS (i:=0) rfl rfl rfl r149 rfl rfl rfl (bta rfl)) (ocn _) ?_
 refine Jz 10 ?_
 refine Jcond rfl ?_ ?_<;>intro c70
 have hno:fndV s none (c.vers.take vn)=none:=by
  cases ho:fndV s none (c.vers.take vn)with
  |none=>rfl
  |some x=>rw[ho]at c70;cases c70
 refine Js (To.g (Jr (.bd [.int .i64 0, .int .i64 0, .slice none 0 0]) ?_))
 refine Jz 6 ?_
 refine JnilRow (Ins.rc) 54 4 (JendCT [0] rfl (.inl rfl) results14 rfl (i:=5) rfl r37 rfl rfl ?_)
 have hr:rU F c vn s=⟨false,0,0,[]⟩:=by unfold rU;rw[hno]
 rw[hr];exact⟨none,0,rfl,rfl⟩
 obtain⟨x,ho⟩:∃x,fndV s none (c.vers.take vn)=some x:=by
  cases ho:fndV s none (c.vers.take vn)with
  |none=>rw[ho]at c70;cases c70
  |some x=>exact⟨x,rfl⟩
 obtain⟨v,hv,hx⟩:=fnd_good hG hc ho
 have gc:=good_code hG hc hv hx
 have hcl:=gc.len
 have hcp:=gc.ps
 refine Jz 3 ?_
 refine Jas [box b11 [.string ((hdOr (fndV s none (c.vers.take vn))).name), .slice ((hdOr (fndV s none (c.vers.take vn))).Ap) ((hdOr (fndV s none (c.vers.take vn))).ps.length) ((hdOr (fndV s none (c.vers.take vn))).qp), .slice ((hdOr (fndV s none (c.vers.take vn))).Ab) ((hdOr (fndV s none (c.vers.take vn))).body.length) ((hdOr (fndV s none (c.vers.take vn))).qb)] 149,all (Cm.kids eR c),rows encZ 9 1 Ah qh (hnames (c.vers.map Vs.pure)),ros encC F.Ac F.comps,box b8 [.int .i64 0, .int .i64 0, .slice none 0 0] 37,box b4 (cF F []) 32,all (Fl.kids eR F)] rfl ?_
 rw[ho]
 refine Jas [box b11 [.string (x.name),vs x.Ap x.ps x.qp,vs x.Ab x.body x.qb] 149,all (Cm.kids eR c),rows encZ 9 1 Ah qh (hnames (c.vers.map Vs.pure)),ros encC F.Ac F.comps,box b8 [.int .i64 0, .int .i64 0, .slice none 0 0] 37,box b4 (cF F []) 32,all (Fl.kids eR F)] rfl ?_
 have hxm:∀z∈x.kids eR,z∈F.kids eR:=fun z hz=>fl_cm hc (List.mem_cons_of_mem _ (List.mem_cons_of_mem _ (List.mem_flatMap.2 ⟨v,hv,List.mem_cons_of_mem _ (List.mem_flatMap.2 ⟨x,hx,hz⟩)⟩)))
 refine To.one 6 rfl (ros encZ x.Ap x.ps) rfl (hxm _ (List.mem_cons_self ..)) (Jz 5 ?_)
 refine Jr (.bd (cF F [nv ci,vs x.Ap x.ps x.qp, .slice none 0 0])) ?_
 refine Jbo fun b77=>?_
 refine Jz 4 ?_
 refine JnilRow (Ins.rc) 54 4 (Jpart 9 rfl (lsS x.Ab x.body) (lsS_lax _ _) (fun z hz=>hxm _ (List.mem_cons_of_mem _ hz)) (Jz 4 ?_))
 refine Jcf [2,1,8,1,0] (rbody_fn F hB ci c hc x.Ap x.qp x.ps om b77 x.Ab x.qb x.body none 0 [] (by show([]++codeR F c x).length≤_;rw[List.nil_append];omega)) ?_
 rintro _ _ ⟨Ak,qk,rfl⟩
 refine Jn (Jsub [(0, .agg (cF F []).toArray),(1,nv ci),(2,nv vn),(3,nv h),(4,pv b4),(8,pv b8),(9, .bool false),(38, .bool (decide (((c.vers.length:Nat):Int)<((vn:Nat):Int)))),(10,vs Ah (hnames (c.vers.map Vs.pure)) qh),(53, .bool (decide ((((hnames (c.vers.map Vs.pure)).length:Nat):Int)≤((h:Nat):Int)))),(11,pv b11),(12, .bool true),(70, .bool (!(true))),(13,pv b77)] sb (Jt (Js (Jfw [] [0,3,4,5,101,2,106,7,208,9509] (ocn _) ?_))))
 refine Jz 7 ?_
 refine Fw.f rfl (.bd [nv x.ps.length, .int .i64 0,vs Ak (codeR F c x) qk]) ?_
 refine Fw.mk rfl rfl rfl rfl rfl (Mk.alloc rfl z37) ?_
 rintro _ _ ⟨b14,rfl,rfl⟩
 refine Fw.up rfl rfl rfl (Up.storeS (i:=0) rfl rfl rfl r37 rfl rfl rfl (bta rfl)) (ocn _) ?_
 refine Jz 5 ?_
 refine Jvf (rheight_fn ((x.ps.length:Nat):Int) 0 Ak qk (codeR F c x) om (fun i hi=>gc.form i hi)) rfl (ocs (oks_row 2 rfl) (ocn _)) ?_
 refine Jz 15 ?_
 refine JendCT [2] rfl (.inl rfl) results14 rfl (i:=9) rfl r37 rfl rfl ?_
 have hr:rU F c vn s=⟨true,x.ps.length,(heightR (codeR F c x)).1,codeR F c x⟩:=by unfold rU;rw[ho]
 rw[hr];exact⟨Ak,qk,rfl,rfl⟩
structure Iz where
 o:Int
 a:Int
 b:Int
 n:Int
def eIz(e:Iz):List Value:=[.int .i64 e.o, .int .i64 e.a, .int .i64 e.b, .int .i64 e.n]
instance eIk:Enc eIz 4:=⟨fun _=>rfl,fun e u hu=>by
 simp only[eIz,List.mem_cons,List.not_mem_nil,or_false]at hu
 rcases hu with rfl|rfl|rfl|rfl<;>rfl⟩
structure SpR(F:Fl)(nil:Bool)(np:Nat)(st:Int)(l:List Ins):Prop where
 op:∀x∈l,x.op<256
 len:l.length≤3816
 two:np≤2
 same:nil=true→∃(ci:Nat) (c:Cm) (s:ByteArray),F.comps[ci]?=some c∧np=(rU F c 1 s).np∧st=(rU F c 1 s).st∧l=(rU F c 1 s).l
theorem formR_op{pr:Int}{n:Nat}{x:Ins}(h:formR pr n x=true):1≤x.op∧x.op≤34:=by
 unfold formR at h
 simp only[Bool.and_eq_true,Bool.not_eq_true',Bool.or_eq_false_iff,decide_eq_false_iff_not]at h
 omega
end Go.Proofs.YtllalpnmagpkfaaGreatDoor

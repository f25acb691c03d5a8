/- Merged out of V3p, V3, V4p, V4, V5, V6p, V6, V7, V8 by merge.py. Own text. -/
import Derived.Test.YtihgdnjkofpgiaaGreatDoorVa
set_option linter.unusedVariables false
set_option linter.unusedSimpArgs false
namespace Go.Proofs.YtihgdnjkofpgiaaGreatDoor
open Go.RowKit Go.Flow Go.Mem Go.Sep Go.In
structure Scp where
 Af:Option Addr
 qf:Nat
 flags:List Fg
 Av:Option Addr
 qv:Nat
 vars:List Vr
 Ap:Option Addr
 qp:Nat
 ps:List ByteArray
def fdV(l:List Vr)(s:ByteArray):Option Vr:=l.find? (fun x:Vr=>decide (x.name=s))
def fdC(l:List Cm)(s:ByteArray):Option Cm:=l.find? (fun x:Cm=>decide (x.name=s))
structure Scp.Low(σ:Scp):Prop where
 f:σ.flags.length≤2
 v:σ.vars.length≤5
 p:σ.ps.length≤2
def Scp.Nm(σ:Scp)(s:ByteArray)(t:Nat):Prop:=((ixF s 0 σ.ps).isSome=true∧t=1)∨((ixF s 0 σ.ps).isSome=false∧∃v,fdV σ.vars s=some v∧v.ty≠3∧t=v.ty)∨((ixF s 0 σ.ps).isSome=false∧fdV σ.vars s=none∧(ixF s 0 (σ.flags.map Fg.name)).isSome=true∧t=2)
def Scp.Ch(σ:Scp)(s:ByteArray)(t:Nat):Prop:=(ixF s 0 σ.ps).isSome=false∧∃v,fdV σ.vars s=some v∧v.ty=t
structure OpT(σ:Scp)(o:Nat)(s:ByteArray)(u t:Nat):Prop where
 ar:1≤o∧o≤23∧u≤2∧t≤2∧(o=1∨o=4→t=1)∧(o=2∨o=3→t=2)∧(o=8→t=1)∧(o=16∨o=17→t=2)∧(o=10∨o=22∨o=23→u=2∧t=2)∧(18≤o∧o≤21→u=1∧t=2)∧(o=7→u=1∧t=2)∧(o=6∨o=9∨11≤o∧o≤15→u=1∧t=1)
 nm:o=5→σ.Nm s t
 tb:o=6∨o=7∨o=8→σ.Ch s 3
mutual
def PE.Ty(σ:Scp):PE→Nat→Prop
 |⟨o,s,_,l⟩,t=>∃u,PE.TyL σ l u∧(l.length=0→u=0)∧OpT σ o s u t
def PE.TyL(σ:Scp):List PE→Nat→Prop
 |[],_=>True
 |e::r,u=>PE.Ty σ e u∧PE.TyL σ r u
end
theorem PE.TyL_of{σ:Scp}{u:Nat}:∀{l:List PE},(∀x∈l,x.Ty σ u)→PE.TyL σ l u
 |[],_=>trivial
 |e::r,h=>⟨h e (List.mem_cons_self ..),PE.TyL_of fun x hx=>h x (List.mem_cons_of_mem _ hx)⟩
structure StT(F:Fl)(x:Cm)(σ:Scp)(k:Nat)(s h:ByteArray)(es:List PE):Prop where
 k1:k=1→∃t,(t=1∨t=2)∧σ.Ch s t∧PE.TyL σ es t
 k2:k=2∨k=3→σ.Ch s 3
 k9:k=9→σ.Ch s 1
 ke:k=2∨k=3∨k=6∨k=7∨k=8∨k=9→PE.TyL σ es 1
 kb:k=4∨k=5→PE.TyL σ es 2
 k6:k=6→∃c h',fdC F.comps s=some c∧fdH c.vers h=some h'∧es.length=h'.ps.length
 k7:k=7→∃h',fdH x.vers h=some h'∧es.length=h'.ps.length+1
mutual
def PS.Ty(F:Fl)(x:Cm)(σ:Scp):PS→Prop
 |⟨k,s,h,es,t,e⟩=>StT F x σ k s h es∧PS.TyL F x σ t∧PS.TyL F x σ e
def PS.TyL(F:Fl)(x:Cm)(σ:Scp):List PS→Prop
 |[]=>True
 |s::r=>PS.Ty F x σ s∧PS.TyL F x σ r
end
section
variable{F:Fl}{x:Cm}{σ:Scp}
theorem PS.TyL_of:∀{l:List PS},(∀s∈l,s.Ty F x σ)→PS.TyL F x σ l
 |[],_=>trivial
 |e::r,h=>⟨h e (List.mem_cons_self ..),PS.TyL_of fun x hx=>h x (List.mem_cons_of_mem _ hx)⟩
end
theorem isNm_size{s:ByteArray}(h:isNm s):s.size≤6:=by
 obtain⟨t,ht,rfl⟩:=h
 have h1:nmsL.all (fun t=>decide (t.length≤6))=true:=rfl
 have h2:t.length≤6:=by simpa using List.all_eq_true.1 h1 t ht
 show(t.map UInt8.ofNat).toArray.size≤6
 rw[List.size_toArray,List.length_map];exact h2
def Dis{α:Type}(f:α→ByteArray)(l:List α):Prop:=∀k x,l[k]?=some x→∀y∈l.take k,f y≠f x
theorem Dis.of{α:Type}{f:α→ByteArray}{l:List α}(h:∀(i j:Nat) (x y:α),i<j→l[i]?=some x→l[j]?=some y→f x≠f y):Dis f l:=fun k x hx y hy=>by
 obtain⟨i,hi⟩:=List.getElem?_of_mem hy
 have hik:i<k:=by have:=(List.getElem?_eq_some_iff.1 hi).1;rw[List.length_take]at this;omega
 exact h i k y x hik (by rw[List.getElem?_take_of_lt hik]at hi;exact hi) hx
theorem Dis.fd{α:Type}{f:α→ByteArray}{l:List α}(h:Dis f l){k:Nat}{x:α}(hx:l[k]?=some x):(l.take k).find? (fun y:α=>decide (f y=f x))=none:=List.find?_eq_none.2 fun y hy=>by simpa using h k x hx y hy
theorem Dis.fs{α:Type}{f:α→ByteArray}{l:List α}(h:Dis f l){k:Nat}{x:α}(hx:l[k]?=some x):l.find? (fun y:α=>decide (f y=f x))=some x:=by
 have h1:=h.fd hx
 obtain⟨hk,he⟩:=List.getElem?_eq_some_iff.1 hx
 rw[←List.take_append_drop k l,List.find?_append,h1,Option.none_or,List.drop_eq_getElem_cons hk,he,List.find?_cons_of_pos (by simp)]
theorem Dis.nms{α:Type}{f:α→ByteArray}{l:List α}{c n:Nat}(hc:c<256)(hn:n<200)(h:l.map f=Go.Proofs.YtihgdnjkofpgiaaGreatDoor.nms c n):Dis f l:=Dis.of fun i j x y hij hx hy e=>by
 have hln:l.length=n:=by rw[←List.length_map (f:=f),h,nms_len]
 have hj:=(List.getElem?_eq_some_iff.1 hy).1
 have g:∀i x,l[i]?=some x→f x=nm c i:=fun i x hx=>by
  have hi:=(List.getElem?_eq_some_iff.1 hx).1
  have h1:(l.map f)[i]?=some (f x):=by rw[List.getElem?_map,hx];rfl
  rw[h,nms_get (by omega)]at h1
  exact(Option.some.inj h1).symm
 rw[g i x hx,g j y hy]at e
 have:=(nm_inj hc hc (by omega) (by omega) e).2
 omega
theorem vars_x:∀a<4,∀b<2,∀k<a,(fdV (varsOf a b) (nm 120 k)).map Vr.ty=some 1:=by decide+kernel
theorem vars_b:∀a<4,∀b<2,(fdV (varsOf a b) nB0).map Vr.ty=some 2:=by decide+kernel
theorem vars_t:∀a<4,(fdV (varsOf a 1) nT0).map Vr.ty=some 3:=by decide+kernel
theorem vars_f:∀a<4,∀b<2,∀k<2,(fdV (varsOf a b) (nm 102 k)).isNone=true:=by decide+kernel
section
variable{F:Fl}{x:Cm}{ct:Ct}{ar:List Nat}{i np:Nat}{σ:Scp}
structure SigOk(F:Fl)(x:Cm)(ct:Ct)(np:Nat)(σ:Scp):Prop where
 ok:ct.Ok
 n2:np≤2
 fl:σ.flags.map Fg.name=nms 102 ct.flags
 vs:σ.vars=varsOf ct.ints ct.tables
 ps:σ.ps=nms 112 np
 to:∀(k:Nat) (a:List Nat) (h n:Nat),ct.ars[k]?=some a→a[h]?=some n→∃c h',fdC F.comps (nC k)=some c∧fdH c.vers (nm 104 h)=some h'∧n=h'.ps.length
 me:∀(a:List Nat) (h n:Nat),ct.ars[ct.own]?=some a→a[h]?=some n→∃h',fdH x.vers (nm 104 h)=some h'∧n=h'.ps.length
theorem SigOk.pn(h:SigOk F x ct np σ){c k:Nat}(hc:c<256)(hk:k<200)(hne:112≠c):(ixF (nm c k) 0 σ.ps).isSome=false:=by
 have:=h.n2
 rw[h.ps,ixF_none (nms_not (by decide) hc (by omega) hk hne)];rfl
theorem SigOk.chx(h:SigOk F x ct np σ){k:Nat}(hk:k<ct.ints):σ.Ch (nm 120 k) 1:=by
 have hi:=h.ok.ints;have ht:=h.ok.tables
 have h1:=vars_x ct.ints (by omega) ct.tables (by omega) k hk
 rw[←h.vs]at h1
 obtain⟨v,hv,e⟩:=Option.map_eq_some_iff.1 h1
 exact⟨h.pn (by decide) (by omega) (by decide),v,hv,e⟩
theorem SigOk.chb(h:SigOk F x ct np σ):σ.Ch nB0 2:=by
 have hi:=h.ok.ints;have ht:=h.ok.tables
 have h1:=vars_b ct.ints (by omega) ct.tables (by omega)
 rw[←h.vs]at h1
 obtain⟨v,hv,e⟩:=Option.map_eq_some_iff.1 h1
 exact⟨h.pn (c:=98) (k:=0) (by decide) (by decide) (by decide),v,hv,e⟩
theorem SigOk.cht(h:SigOk F x ct np σ)(h0:0<ct.tables):σ.Ch nT0 3:=by
 have hi:=h.ok.ints;have ht:=h.ok.tables
 have h1:=vars_t ct.ints (by omega)
 rw[show(1:Nat)=ct.tables by omega,←h.vs]at h1
 obtain⟨v,hv,e⟩:=Option.map_eq_some_iff.1 h1
 exact⟨h.pn (c:=116) (k:=0) (by decide) (by decide) (by decide),v,hv,e⟩
theorem Scp.Ch.nm{s:ByteArray}{t:Nat}(h:σ.Ch s t)(ht:t≠3):σ.Nm s t:=by
 obtain⟨h1,v,h2,h3⟩:=h
 exact .inr (.inl ⟨h1,v,h2,by rw[h3];exact ht,h3.symm⟩)
theorem SigOk.nmp(h:SigOk F x ct np σ){k:Nat}(hk:k<np):σ.Nm (nm 112 k) 1:=by
 have:=h.n2
 refine .inl ⟨?_,rfl⟩
 rw[h.ps,nms_ix (by decide) (by omega) hk 0];rfl
theorem SigOk.nmf(h:SigOk F x ct np σ){k:Nat}(hk:k<ct.flags):σ.Nm (nm 102 k) 2:=by
 have hi:=h.ok.ints;have ht:=h.ok.tables;have hf:=h.ok.flags
 have h1:=vars_f ct.ints (by omega) ct.tables (by omega) k (by omega)
 rw[←h.vs]at h1
 refine .inr (.inr ⟨h.pn (by decide) (by omega) (by decide),Option.isNone_iff_eq_none.1 h1,?_,rfl⟩)
 rw[h.fl,nms_ix (by decide) (by omega) hk 0];rfl
theorem ty0{σ:Scp}{o:Nat}{s:ByteArray}{n:Int}{t:Nat}(ho:OpT σ o s 0 t):PE.Ty σ ⟨o,s,n,[]⟩ t:=⟨0,trivial,fun _=>rfl,ho⟩
theorem ty1{σ:Scp}{o:Nat}{s:ByteArray}{n:Int}{u t:Nat}{a:PE}(ha:a.Ty σ u)(ho:OpT σ o s u t):PE.Ty σ ⟨o,s,n,[a]⟩ t:=⟨u,⟨ha,trivial⟩,fun h=>absurd h (show¬1=0 by decide),ho⟩
theorem ty2{σ:Scp}{o:Nat}{s:ByteArray}{n:Int}{u t:Nat}{a b:PE}(ha:a.Ty σ u)(hb:b.Ty σ u)(ho:OpT σ o s u t):PE.Ty σ ⟨o,s,n,[a,b]⟩ t:=⟨u,⟨ha,hb,trivial⟩,fun h=>absurd h (by show¬2=0;decide),ho⟩
theorem IntE.ty(h:SigOk F x ct np σ){d:Nat}{e:PE}(he:IntE ct np d e):e.Ty σ 1:=by
 induction he with
 |num d n hn=>exact ty0 ⟨by omega,by omega,by omega⟩
 |var d k hk=>exact ty0 ⟨by omega,fun _=>(h.chx hk).nm (by decide),by omega⟩
 |par d k hk=>exact ty0 ⟨by omega,fun _=>h.nmp hk,by omega⟩
 |now d=>exact ty0 ⟨by omega,by omega,by omega⟩
 |get d e ht he ih=>exact ty1 ih ⟨by omega,by omega,fun _=>h.cht ht⟩
 |size d ht=>exact ty0 ⟨by omega,by omega,fun _=>h.cht ht⟩
 |neg d e he ih=>exact ty1 ih ⟨by omega,by omega,by omega⟩
 |bin d op a b ho ha hb iha ihb=>exact ty2 iha ihb ⟨by omega,by omega,by omega⟩
theorem TruE.ty(h:SigOk F x ct np σ){d:Nat}{e:PE}(he:TruE ct np d e):e.Ty σ 2:=by
 induction he with
 |tf d op ho=>exact ty0 ⟨by omega,by omega,by omega⟩
 |b0 d=>exact ty0 ⟨by omega,fun _=>h.chb.nm (by decide),by omega⟩
 |flag d k hk=>exact ty0 ⟨by omega,fun _=>h.nmf hk,by omega⟩
 |has d e ht he=>exact ty1 (he.ty h) ⟨by omega,by omega,fun _=>h.cht ht⟩
 |not d e he ih=>exact ty1 ih ⟨by omega,by omega,by omega⟩
 |two d op a b ho ha hb iha ihb=>exact ty2 iha ihb ⟨by omega,by omega,by omega⟩
 |cmp d op a b ho ha hb=>exact ty2 (ha.ty h) (hb.ty h) ⟨by omega,by omega,by omega⟩
theorem tyl1{σ:Scp}{u:Nat}{a:PE}(h:a.Ty σ u):PE.TyL σ [a] u:=⟨h,trivial⟩
theorem tyl2{σ:Scp}{u:Nat}{a b:PE}(h:a.Ty σ u)(k:b.Ty σ u):PE.TyL σ [a,b] u:=⟨h,k,trivial⟩
theorem StE.ty(h:SigOk F x ct np σ){d:Nat}{s:PS}(hs:StE ct np d s):s.Ty F x σ:=by
 induction hs with
 |setB d e he=>exact⟨⟨fun _=>⟨2, .inr rfl,h.chb,tyl1 (he.ty h)⟩,by omega,by omega,by omega,by omega,by omega,by omega⟩,trivial,trivial⟩
 |setX d k e hk he=>exact⟨⟨fun _=>⟨1, .inl rfl,h.chx hk,tyl1 (he.ty h)⟩,by omega,by omega,by omega,by omega,by omega,by omega⟩,trivial,trivial⟩
 |put d a b ht ha hb=>exact⟨⟨by omega,fun _=>h.cht ht,by omega,fun _=>tyl2 (ha.ty h) (hb.ty h),by omega,by omega,by omega⟩,trivial,trivial⟩
 |del d a ht ha=>exact⟨⟨by omega,fun _=>h.cht ht,by omega,fun _=>tyl1 (ha.ty h),by omega,by omega,by omega⟩,trivial,trivial⟩
 |ife d e t l he ht hl iht ihl=>exact⟨⟨by omega,by omega,by omega,by omega,fun _=>tyl1 (he.ty h),by omega,by omega⟩,PS.TyL_of iht,PS.TyL_of ihl⟩
 |whl d e t he ht iht=>exact⟨⟨by omega,by omega,by omega,by omega,fun _=>tyl1 (he.ty h),by omega,by omega⟩,PS.TyL_of iht,trivial⟩
 |send d to k a l ha hh hl=>exact⟨⟨by omega,by omega,by omega,fun _=>PE.TyL_of fun e he=>(hl e he).ty h,by omega,fun _=>h.to to a k _ ha hh,by omega⟩,trivial,trivial⟩
 | after d k a e l ha hh he hl=>
   refine⟨⟨by omega,by omega,by omega,fun _=>⟨he.ty h,PE.TyL_of fun e he=>(hl e he).ty h⟩,by omega,by omega,fun _=>?_⟩,trivial,trivial⟩
   obtain⟨h',h1,h2⟩:=h.me a k _ ha hh
   exact⟨h',h1,by rw[lc1,h2]⟩
 |store d a b l ha hb hl ihl=>exact⟨⟨by omega,by omega,by omega,fun _=>tyl2 (ha.ty h) (hb.ty h),by omega,by omega,by omega⟩,trivial,PS.TyL_of ihl⟩
 |fetch d k e l hk he hl ihl=>exact⟨⟨by omega,by omega,fun _=>h.chx hk,fun _=>tyl1 (he.ty h),by omega,by omega,by omega⟩,trivial,PS.TyL_of ihl⟩
 |stop d=>exact⟨⟨by omega,by omega,by omega,by omega,by omega,by omega,by omega⟩,trivial,trivial⟩
end
structure TyH(F:Fl)(x:Cm)(h:Hd):Prop where
 ps:∀k p,h.ps[k]?=some p→fdV x.vars p=none∧ixF p 0 (F.flags.map Fg.name)=none∧ixF p 0 (h.ps.take k)=none
 body:PS.TyL F x ⟨F.Af,F.qf,F.flags,x.Av,x.qv,x.vars,h.Ap,h.qp,h.ps⟩ (St.pL h.body)
structure TyC(F:Fl)(i:Nat)(x:Cm):Prop where
 new:fdC (F.comps.take i) x.name=none
 nfl:ixF x.name 0 (F.flags.map Fg.name)=none
 var:∀k v,x.vars[k]?=some v→fdV (x.vars.take k) v.name=none∧ixF v.name 0 (F.flags.map Fg.name)=none
 hd:∀n v,x.vers[n]?=some v→∀k h,v.l[k]?=some h→(v.l.take k).find? (fun y:Hd=>decide (y.name=h.name))=none∧(∀h',fdH (x.vers.take n) h.name=some h'→h'.ps.length=h.ps.length)∧TyH F x h
structure TyF(F:Fl):Prop where
 fl:∀k z,F.flags[k]?=some z→ixF z.name 0 ((F.flags.take k).map Fg.name)=none
 lk:∀z∈F.links,(∃c,fdC F.comps z.src=some c)∧∃c,fdC F.comps z.dst=some c
 ln:∀k z,F.links[k]?=some z→∀y∈F.links.take k,¬(y.src=z.src∧y.dst=z.dst)
 comp:∀i c,F.comps[i]?=some c→TyC F i c
end Go.Proofs.YtihgdnjkofpgiaaGreatDoor

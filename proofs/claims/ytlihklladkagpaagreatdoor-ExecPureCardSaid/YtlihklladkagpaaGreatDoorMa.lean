/- Own text. -/
import Derived.Test.YtlihklladkagpaaGreatDoorWe
set_option linter.unusedVariables false
set_option linter.unusedSimpArgs false
namespace Go.Proofs.YtlihklladkagpaaGreatDoor
open Go.Proofs.Tryz
open Go.RowKit Go.Flow Go.Mem Go.Sep Go.In
theorem heightsR{F:Fl}(h:GoodF F.pure){ci:Nat}{c:Cm}(hc:F.comps[ci]?=some c){v:Vs}(hv:v∈c.vers){x:Hd}(hx:x∈v.l):∃t:Int,heightsV (codeR F c x)=(t,true)∧0≤t∧t≤10:=by
 obtain⟨ct,ar,ok⟩:=h.okC (pure_comp hc)
 have hgv:=ok.vers v.pure (List.mem_map.2 ⟨v,hv,rfl⟩)
 obtain⟨k,hk⟩:=List.getElem?_of_mem hx
 have gh:=hgv.2.2 k x.pure (by show(v.l.map Hd.pure)[k]?=_;rw[List.getElem?_map,hk];rfl)
 obtain⟨np,hnp,hps,hst⟩:=gh.ps
 have hst:∀s∈St.pL x.body,StE ct np 3 s:=hst
 exact body_heights (ccR_loads F.pure c.name c.vars x.ps) fun s hs=>(hst s hs).wf ok.ok
theorem verifyP{F:Fl}(h:GoodF F.pure){ci:Nat}{c:Cm}(hc:F.comps[ci]?=some c){v:Vs}(hv:v∈c.vers){x:Hd}(hx:x∈v.l):verifyV ((x.ps.length:Nat):Int) (heightsV (codeR F c x)).1 (codeR F c x)=0:=by
 have g:=good_code h hc hv hx
 obtain⟨t,e,h1,h2⟩:=heightsR h hc hv hx
 have hp:=g.ps
 have hl:=g.len
 rw[verify_ok (by rw[e];show¬(64<t∨_);omega) om fun i hi=>by rw[←form_eq om];exact g.form i hi,e,if_neg (by simp)]
theorem prog_at{F:Fl}{ps:List PP}(hP:ProgOk F ps){ci:Nat}{c:Cm}(hc:F.comps[ci]?=some c):∃p,ps[ci]?=some p∧PPOk F c p:=by
 have hl:ci<ps.length:=by rw[hP.len];exact(List.getElem?_eq_some_iff.1 hc).1
 exact⟨_,gge hl,hP.inv ci c _ hc (gge hl)⟩
theorem unit_at{F:Fl}{c:Cm}{p:PP}(hp:PPOk F c p){n:Nat}(hn:n<c.vers.length){h:Nat}{s:ByteArray}(hs:p.names[h]?=some s):
    ∃v f u t,p.us[n]?=some v∧p.fs[n]?=some f∧v.l[h]?=some u∧f.l[h]?=some t∧UAt F c u t (fndV s none (c.vers.take (n+1))):=by
 have h1:n<p.us.length:=by rw[hp.ul];exact hn
 have h2:n<p.fs.length:=by rw[hp.fl];exact hn
 have hi:=hp.inv n _ _ (gge h1) (gge h2)
 obtain⟨u,t,h3,h4,h5⟩:=hi.at_ h s hs
 exact⟨_,_,u,t,gge h1,gge h2,h3,h4,h5⟩
theorem UAt.some{F:Fl}{c:Cm}{u:PU}{s:ByteArray}{l:List Vs}(h:UAt F c u true (fndV s none l)):∃v x A q,v∈l∧x∈v.l∧fndV s none l= .some x∧u=puOf F c x A q:=by
 cases e:fndV s none l with
 |none=>rw[e]at h;exact absurd h.2 (by decide)
 | some x=>
   rw[e]at h
   obtain⟨_,A,q,hu⟩:=h
   rcases fndV_mem e with h1|⟨v,hv,hx⟩
   ·cases h1
   ·exact⟨v,x,A,q,hv,hx,rfl,hu⟩
def pU(F:Fl)(c:Cm)(v:Nat)(s:ByteArray):RU:=if v=0∨c.vers.length<v then⟨false,0,0,[]⟩else match fndV s none (c.vers.take v)with
 |none=>⟨false,0,0,[]⟩
 |some x=>⟨true,x.ps.length,(heightsV (codeR F c x)).1,codeR F c x⟩
theorem Does.nilR{P:Program}{f:FuncId}{args:List Value}{Γ:List Chunk}{v:Value}{α:Type}{enc:α→List Value}{e:TypeId}{size:Nat}(h:Does P f args Γ (fun r Γ'=>r=v∧Γ'=[])):Does P f args Γ (fun r Γ'=>r=v∧Γ'=[rows enc e size none 0 ([]:List α)]):=fun w hs=>(h w hs).mono fun x w' ⟨r,Γ',h1,⟨h2,h3⟩,h4⟩=>by
 subst h3
 have hk:Post [] [rows enc e size none 0 ([]:List α)] w' w':=(show To ⟨0,[],w',[]⟩ [] [] (fun _ w2=>w2=w'→Post [] [rows enc e size none 0 ([]:List α)] w' w')from JnilRow (enc:=enc) (e:=e) (size:=size) (fun _ w2 _ hp e2=>by subst e2;exact hp)) _ w' (Has.start [] 0 rfl) (Post.refl h4.sat) rfl
 exact⟨r,_,h1,⟨h2,rfl⟩,h4.trans hk⟩
theorem Does.nilR'{P:Program}{f:FuncId}{args:List Value}{Γ:List Chunk}{α:Type}{enc:α→List Value}{e:TypeId}{size:Nat}(h:Does P f args Γ (fun r Γ'=>r= .tuple #[.agg #[.int .i64 0, .int .i64 0, .slice none 0 0], .bool false]∧Γ'=[])):Does P f args Γ (fun r Γ'=>r= .tuple #[.agg #[.int .i64 0, .int .i64 0, .slice none 0 0], .bool false]∧Γ'=[rows enc e size none 0 ([]:List α)]):=Does.nilR h
section
variable{F:Fl}{ps:List PP}{k:Nat}{c:Cm}{h:Nat}{s:ByteArray}
theorem punit_at(b:Nat)(A:OA)(q:Nat)(hP:ProgOk F ps)(hG:GoodF F.pure)(hc:F.comps[k]?=some c)(hs:(hnames (c.vers.map Vs.pure))[h]?=some s)(v:Nat):
    Dz 28 [pv b,nv k,nv v,nv h] [all (pgk b A q ps)] (fun r Γ'=>∃(B:OA) (m:Nat),r= .tuple #[.agg #[nv ((pU F c v s).np), .int .i64 (pU F c v s).st, .slice B (pU F c v s).l.length m], .bool (pU F c v s).ok]∧Γ'=[rows Ins.cells 116 4 B m (pU F c v s).l]):=by
 obtain⟨p,hp,hpp⟩:=prog_at hP hc
 have hX:=goodX hG
 have hpl:ps.length≤12:=by rw[hP.len];have:=hX.comps;omega
 have hcv:=(hX.comp c (mog hc)).vers2
 have hul:=hpp.ul
 have hn:p.names[h]?=some s:=by rw[hpp.names];exact hs
 by_cases hv:v=0∨c.vers.length<v
 · have e:pU F c v s=⟨false,0,0,[]⟩:=if_pos hv
   rw[e]
   exact(Does.nilR' (punitO_fn b A q ps k p hp hpl v h om)).mono fun r Γ' ⟨h1,h2⟩=>⟨none,0,h1,h2⟩
 · obtain⟨n,rfl⟩:∃n,v=n+1:=⟨v-1,by omega⟩
   obtain⟨vv,f,u,t,h1,h2,h3,h4,h5⟩:=unit_at hpp (n:=n) om hn
   have e:pU F c (n+1) s=match fndV s none (c.vers.take (n+1))with|none=>⟨false,0,0,[]⟩|some x=>⟨true,x.ps.length,(heightsV (codeR F c x)).1,codeR F c x⟩:=if_neg hv
   have hhl:=(List.getElem?_eq_some_iff.1 hn).1
   cases ho:fndV s none (c.vers.take (n+1))with
   | none=>
     rw[ho]at h5 e
     obtain⟨rfl,rfl⟩:=h5
     rw[e]
     exact(Does.nilR' (punitF_fn b A q ps k p hp hpl n vv h1 f h2 h hhl zPU h3 h4 (Nat.zero_le _) om)).mono fun r Γ' ⟨h1,h2⟩=>⟨none,0,h1,h2⟩
   | some x=>
     rw[ho]at h5 e
     obtain⟨rfl,B,m,rfl⟩:=h5
     rw[e]
     obtain⟨v',hv',hx⟩:=fnd_good hG hc ho
     have g:=(good_code hG hc hv' hx).len
     exact punit_fn b A q ps k p hp hpl n vv h1 f h2 h hhl _ h3 h4 (by show(codeR F c x).length≤_;omega) om
end
theorem map_at{α β:Type}{f:α→β}{l m:List α}(h:l.map f=m.map f){i:Nat}{x:α}(hx:l[i]?=some x):∃y,m[i]?=some y∧f y=f x:=by
 have h1:(m.map f)[i]?=some (f x):=by rw[←h,List.getElem?_map,hx];rfl
 rw[List.getElem?_map]at h1
 exact Option.map_eq_some_iff.1 h1
theorem fndH_pure(s:ByteArray):∀(l:List Hd) (o:Option Hd),(fndH s o l).map Hd.pure=(l.map Hd.pure).foldl (fun r (y:PH)=>if y.name=s then some y else r) (o.map Hd.pure)
 |[],o=>rfl
 | y::r,o=>by
   rw[fndH_cons,fndH_pure s r,List.map_cons,List.foldl_cons]
   by_cases h:y.name=s
   ·rw[if_pos h,if_pos (show y.pure.name=s from h)];rfl
   ·rw[if_neg h,if_neg (show¬y.pure.name=s from h)]
theorem fndV_pure(s:ByteArray):∀(l:List Vs) (o:Option Hd),(fndV s o l).map Hd.pure=(l.map Vs.pure).foldl (fun r (v:List PH)=>v.foldl (fun r (y:PH)=>if y.name=s then some y else r) r) (o.map Hd.pure)
 |[],o=>rfl
 | v::r,o=>by
   show(fndV s (fndH s o v.l) r).map Hd.pure=_
   rw[fndV_pure s r,fndH_pure];rfl
section
variable{F F':Fl}{c c':Cm}{v k:Nat}{s:ByteArray}
theorem pU_pure(hp:F'.pure=F.pure)(hc:c'.pure=c.pure):pU F' c' v s=pU F c v s:=by
 have hv:c'.vers.map Vs.pure=c.vers.map Vs.pure:=congrArg PC.vers hc
 have hl:c'.vers.length=c.vers.length:=by have h:=congrArg List.length hv;rw[List.length_map,List.length_map]at h;exact h
 have h:(fndV s none (c'.vers.take v)).map Hd.pure=(fndV s none (c.vers.take v)).map Hd.pure:=by rw[fndV_pure,fndV_pure,List.map_take,List.map_take,hv]
 have hcode:∀x x':Hd,x'.pure=x.pure→codeR F' c' x'=codeR F c x:=fun x x' e=>by
  show cB (ccR F'.pure c'.name c'.vars x'.ps) (St.pL x'.body) 0=cB (ccR F.pure c.name c.vars x.ps) (St.pL x.body) 0
  rw[hp,show c'.name=c.name from congrArg PC.name hc,show c'.vars=c.vars from congrArg PC.vars hc,show x'.ps=x.ps from congrArg PH.ps e,show St.pL x'.body=St.pL x.body from congrArg PH.body e]
 unfold pU
 rw[hl]
 split
 ·rfl
 · cases h1:fndV s none (c'.vers.take v)with
   | none=>
     cases h2:fndV s none (c.vers.take v)with
     |none=>rfl
     |some x=>rw[h1,h2]at h;cases h
   | some x'=>
     cases h2:fndV s none (c.vers.take v)with
     |none=>rw[h1,h2]at h;cases h
     | some x=>
       rw[h1,h2]at h
       have e:x'.pure=x.pure:=Option.some.inj h
       show(⟨true,x'.ps.length,(heightsV (codeR F' c' x')).1,codeR F' c' x'⟩:RU)=⟨true,x.ps.length,(heightsV (codeR F c x)).1,codeR F c x⟩
       rw[hcode x x' e,show x'.ps=x.ps from congrArg PH.ps e]
theorem comp_of(hp:F'.pure=F.pure)(hc:F.comps[k]?=some c):∃c',F'.comps[k]?=some c'∧c'.pure=c.pure:=map_at (f:=Cm.pure) (congrArg PF.comps hp).symm hc
theorem hn_of(hc:c'.pure=c.pure):hnames (c'.vers.map Vs.pure)=hnames (c.vers.map Vs.pure):=congrArg hnames (congrArg PC.vers hc)
theorem pU_is(hv:1≤v∧v≤c.vers.length):pU F c v s=match fndV s none (c.vers.take v)with
 |none=>⟨false,0,0,[]⟩
 |some x=>⟨true,x.ps.length,(heightsV (codeR F c x)).1,codeR F c x⟩:=if_neg om
theorem pU_ok(hv:1≤v∧v≤c.vers.length):(pU F c v s).ok=(fndV s none (c.vers.take v)).isSome:=by
 rw[pU_is hv]
 cases fndV s none (c.vers.take v)<;>rfl
theorem hn_pos(hG:GoodF F.pure)(hc:F.comps[k]?=some c):1≤(hnames (c.vers.map Vs.pure)).length∧(hnames (c.vers.map Vs.pure)).length≤3:=by
 have hX:=goodX hG
 have hv1:=(hX.comp c (mog hc)).vers1
 obtain⟨ct,ar,ok⟩:=hG.okC (pure_comp hc)
 obtain⟨nn,hW⟩:=cmW hG hc
 have hvm:=mog (gge hv1)
 have hl:=(ok.vers c.vers[0].pure (List.mem_map.2 ⟨_,hvm,rfl⟩)).1
 have hpl:c.vers[0].pure.length=c.vers[0].l.length:=List.length_map ..
 have h2:=(hW.each _ hvm 0 _ (gge om)).2
 rw[hW.hn,nms_len]
 have:=hW.n3
 exact⟨by omega,this⟩
end
def nT(l:List Vr):Nat:=(l.filter fun v=>decide (v.ty=3)).length
def nV(l:List Vr):Nat:=(l.filter fun v=>decide (v.ty≠3)).length
theorem nT_snoc{l:List Vr}{j:Nat}{y:Vr}(h:l[j]?=some y):nT (l.take (j+1))=nT (l.take j)+(if y.ty=3 then 1 else 0):=by
 unfold nT
 rw[take_of_get h,List.filter_append,lap]
 by_cases e:y.ty=3<;>simp[e]
theorem nV_snoc{l:List Vr}{j:Nat}{y:Vr}(h:l[j]?=some y):nV (l.take (j+1))=nV (l.take j)+(if y.ty=3 then 0 else 1):=by
 unfold nV
 rw[take_of_get h,List.filter_append,lap]
 by_cases e:y.ty=3<;>simp[e]
theorem vars_is{F:Fl}(hG:GoodF F.pure){c:Cm}{k:Nat}(hc:F.comps[k]?=some c):∃i t,(1≤i∧i≤3)∧t≤1∧c.vars=varsOf i t:=by
 obtain⟨ars,_,_,h⟩:=hG.comps
 obtain⟨i,t,ar,hi,ht,_,hv,_⟩:=(h k c.pure (pure_comp hc)).vers
 exact⟨i,t,hi,ht,hv⟩
theorem nVT{F:Fl}(hG:GoodF F.pure){c:Cm}{k:Nat}(hc:F.comps[k]?=some c):nV c.vars≤4∧nT c.vars≤1:=by
 obtain⟨i,t,hi,ht,e⟩:=vars_is hG hc
 rw[e]
 have h:∀i,i<4→∀t,t<2→nV (varsOf i t)≤4∧nT (varsOf i t)≤1:=by decide+kernel
 exact h i om t om
structure SkOk(U:RU):Prop where
 ver:verifyV ((U.np:Nat):Int) U.st U.l=0
 len:U.l.length≤3816
 ops:∀x∈U.l,x.op<256
 np:U.np≤4
theorem sk_ok{F:Fl}(hG:GoodF F.pure){c:Cm}{k v:Nat}{s:ByteArray}(hc:F.comps[k]?=some c)(hv:1≤v∧v≤c.vers.length)(h:(fndV s none (c.vers.take v)).isSome=true):SkOk (pU F c v s):=by
 obtain⟨x,hx⟩:=Option.isSome_iff_exists.1 h
 have e:pU F c v s=⟨true,x.ps.length,(heightsV (codeR F c x)).1,codeR F c x⟩:=by rw[pU_is hv,hx]
 obtain⟨v',hv',hxm⟩:=fnd_good hG hc hx
 have g:=good_code hG hc hv' hxm
 rw[e]
 exact⟨verifyP hG hc hv' hxm,g.len,fun i hi=>by have:=formR_op (g.form i hi);omega,by have:=g.ps;show x.ps.length≤4;omega⟩
end Go.Proofs.YtlihklladkagpaaGreatDoor

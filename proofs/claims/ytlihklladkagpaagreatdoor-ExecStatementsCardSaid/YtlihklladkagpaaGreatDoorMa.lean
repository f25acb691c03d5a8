/- Own text. -/
import Derived.Test.YtlihklladkagpaaGreatDoorWe
set_option linter.unusedVariables false
set_option linter.unusedSimpArgs false
namespace Go.Proofs.YtlihklladkagpaaGreatDoor
open Go.Proofs.Tryz
open Go.RowKit Go.Flow Go.Mem Go.Sep Go.In
theorem OB{F:Fl}(h:Ku F.pure){ci:Nat}{c:Cm}(hc:F.comps[ci]?=some c){v:Vs}(hv:v∈c.vers){x:Hd}(hx:x∈v.l):∃t:Int,Et (Gh F c x)=(t,true)∧0≤t∧t≤10:=by
 obtain⟨ct,ar,ok⟩:=h.okC (Oo hc)
 have hgv:=ok.vers v.pure (aEv.2 ⟨v,hv,rfl⟩)
 obtain⟨k,hk⟩:=aFt hx
 have gh:=hgv.2.2 k x.pure (by show(v.l.map Hd.pure)[k]?=_;rw[aEp,hk];rfl)
 obtain⟨np,hnp,hps,hst⟩:=gh.ps
 have hst:∀s∈Ba x.body,StE ct np 3 s:=hst
 exact qE (FE F.pure c.name c.vars x.ps) fun s hs=>(hst s hs).wf ok.ok
theorem TS{F:Fl}(h:Ku F.pure){ci:Nat}{c:Cm}(hc:F.comps[ci]?=some c){v:Vs}(hv:v∈c.vers){x:Hd}(hx:x∈v.l):Kg ((x.ps.length:Nat):Int) (Et (Gh F c x)).1 (Gh F c x)=0:=by
 have g:=Xe h hc hv hx
 obtain⟨t,e,h1,h2⟩:=OB h hc hv hx
 have hp:=g.ps
 have hl:=g.len
 rw[Ws (by rw[e];show¬(64<t∨_);omega) om fun i hi=>by rw[←AO om];exact g.form i hi,e,aEa (by simp)]
theorem TT{F:Fl}{ps:List PP}(hP:yO F ps){ci:Nat}{c:Cm}(hc:F.comps[ci]?=some c):∃p,ps[ci]?=some p∧NS F c p:=by
 have hl:ci<ps.length:=by rw[hP.len];exact(aEc.1 hc).1
 exact⟨_,gge hl,hP.inv ci c _ hc (gge hl)⟩
theorem TU{F:Fl}{c:Cm}{p:PP}(hp:NS F c p){n:Nat}(hn:n<c.vers.length){h:Nat}{s:ByteArray}(hs:p.names[h]?=some s):
    ∃v f u t,p.us[n]?=some v∧p.fs[n]?=some f∧v.l[h]?=some u∧f.l[h]?=some t∧UAt F c u t (Ei s none (c.vers.take (n+1))):=by
 have h1:n<p.us.length:=by rw[hp.ul];exact hn
 have h2:n<p.fs.length:=by rw[hp.fl];exact hn
 have hi:=hp.inv n _ _ (gge h1) (gge h2)
 obtain⟨u,t,h3,h4,h5⟩:=hi.at_ h s hs
 exact⟨_,_,u,t,gge h1,gge h2,h3,h4,h5⟩
theorem UAt.some{F:Fl}{c:Cm}{u:PU}{s:ByteArray}{l:List Vs}(h:UAt F c u true (Ei s none l)):∃v x A q,v∈l∧x∈v.l∧Ei s none l= .some x∧u=rA F c x A q:=by
 cases e:Ei s none l with
 |none=>rw[e]at h;exact absurd h.2 (by decide)
 | some x=>
   rw[e]at h
   obtain⟨_,A,q,hu⟩:=h
   rcases kL e with h1|⟨v,hv,hx⟩
   ·cases h1
   ·exact⟨v,x,A,q,hv,hx,rfl,hu⟩
def pU(F:Fl)(c:Cm)(v:Nat)(s:ByteArray):RU:=if v=0∨c.vers.length<v then⟨false,0,0,[]⟩else match Ei s none (c.vers.take v)with
 |none=>⟨false,0,0,[]⟩
 |some x=>⟨true,x.ps.length,(Et (Gh F c x)).1,Gh F c x⟩
theorem GV{P:Program}{f:FuncId}{args:List Value}{Γ:List Ai}{v:Value}{α:Type}{enc:α→List Value}{e:TypeId}{size:Nat}(h:aMa P f args Γ (fun r Γ'=>r=v∧Γ'=[])):aMa P f args Γ (fun r Γ'=>r=v∧Γ'=[rows enc e size none 0 ([]:List α)]):=fun w hs=>(h w hs).mono fun x w' ⟨r,Γ',h1,⟨h2,h3⟩,h4⟩=>by
 subst h3
 have hk:Dj [] [rows enc e size none 0 ([]:List α)] w' w':=(show To ⟨0,[],w',[]⟩ [] [] (fun _ w2=>w2=w'→Dj [] [rows enc e size none 0 ([]:List α)] w' w')from Cz (enc:=enc) (e:=e) (size:=size) (fun _ w2 _ hp e2=>by subst e2;exact hp)) _ w' (Wo [] 0 rfl) (Dj.refl h4.sat) rfl
 exact⟨r,_,h1,⟨h2,rfl⟩,h4.trans hk⟩
theorem kV{P:Program}{f:FuncId}{args:List Value}{Γ:List Ai}{α:Type}{enc:α→List Value}{e:TypeId}{size:Nat}(h:aMa P f args Γ (fun r Γ'=>r= .tuple #[.agg #[iv 0,iv 0,nz], .bool false]∧Γ'=[])):aMa P f args Γ (fun r Γ'=>r= .tuple #[.agg #[iv 0,iv 0,nz], .bool false]∧Γ'=[rows enc e size none 0 ([]:List α)]):=GV h
section
variable{F:Fl}{ps:List PP}{k:Nat}{c:Cm}{h:Nat}{s:ByteArray}
theorem OC(b:Nat)(A:OA)(q:Nat)(hP:yO F ps)(hG:Ku F.pure)(hc:F.comps[k]?=some c)(hs:(hnames (c.vers.map Vs.pure))[h]?=some s)(v:Nat):
    Dz 28 [pv b,nv k,nv v,nv h] [all (pgk b A q ps)] (fun r Γ'=>∃(B:OA) (m:Nat),r= .tuple #[.agg #[nv ((pU F c v s).np),iv (pU F c v s).st, .slice B (pU F c v s).l.length m], .bool (pU F c v s).ok]∧Γ'=[rows Ins.cells 116 4 B m (pU F c v s).l]):=by
 obtain⟨p,hp,hpp⟩:=TT hP hc
 have hX:=uG hG
 have hpl:ps.length≤12:=by rw[hP.len];have:=hX.comps;omega
 have hcv:=(hX.comp c (mog hc)).vers2
 have hul:=hpp.ul
 have hn:p.names[h]?=some s:=by rw[hpp.names];exact hs
 by_cases hv:v=0∨c.vers.length<v
 · have e:pU F c v s=⟨false,0,0,[]⟩:=aEh hv
   rw[e]
   exact(kV (GU b A q ps k p hp hpl v h om)).mono fun r Γ' ⟨h1,h2⟩=>⟨none,0,h1,h2⟩
 · obtain⟨n,rfl⟩:∃n,v=n+1:=⟨v-1,by omega⟩
   obtain⟨vv,f,u,t,h1,h2,h3,h4,h5⟩:=TU hpp (n:=n) om hn
   have e:pU F c (n+1) s=match Ei s none (c.vers.take (n+1))with|none=>⟨false,0,0,[]⟩|some x=>⟨true,x.ps.length,(Et (Gh F c x)).1,Gh F c x⟩:=aEa hv
   have hhl:=(aEc.1 hn).1
   cases ho:Ei s none (c.vers.take (n+1))with
   | none=>
     rw[ho]at h5 e
     obtain⟨rfl,rfl⟩:=h5
     rw[e]
     exact(kV (GR b A q ps k p hp hpl n vv h1 f h2 h hhl zPU h3 h4 (aEw _) om)).mono fun r Γ' ⟨h1,h2⟩=>⟨none,0,h1,h2⟩
   | some x=>
     rw[ho]at h5 e
     obtain⟨rfl,B,m,rfl⟩:=h5
     rw[e]
     obtain⟨v',hv',hx⟩:=kM hG hc ho
     have g:=(Xe hG hc hv' hx).len
     exact NZ b A q ps k p hp hpl n vv h1 f h2 h hhl _ h3 h4 (by show(Gh F c x).length≤_;omega) om
end
theorem YN{α β:Type}{f:α→β}{l m:List α}(h:l.map f=m.map f){i:Nat}{x:α}(hx:l[i]?=some x):∃y,m[i]?=some y∧f y=f x:=by
 have h1:(m.map f)[i]?=some (f x):=by rw[←h,aEp,hx];rfl
 rw[aEp]at h1
 exact aFg.1 h1
theorem nQ(s:ByteArray):∀(l:List Hd) (o:Option Hd),(bY s o l).map Hd.pure=(l.map Hd.pure).foldl (fun r (y:PH)=>if y.name=s then some y else r) (o.map Hd.pure)
 |[],o=>rfl
 | y::r,o=>by
   rw[Xd,nQ s r,aFn,aGe]
   by_cases h:y.name=s
   ·rw[aEh h,aEh (show y.pure.name=s from h)];rfl
   ·rw[aEa h,aEa (show¬y.pure.name=s from h)]
theorem bZ(s:ByteArray):∀(l:List Vs) (o:Option Hd),(Ei s o l).map Hd.pure=(l.map Vs.pure).foldl (fun r (v:List PH)=>v.foldl (fun r (y:PH)=>if y.name=s then some y else r) r) (o.map Hd.pure)
 |[],o=>rfl
 | v::r,o=>by
   show(Ei s (bY s o v.l) r).map Hd.pure=_
   rw[bZ s r,nQ];rfl
section
variable{F F':Fl}{c c':Cm}{v k:Nat}{s:ByteArray}
theorem TV(hp:F'.pure=F.pure)(hc:c'.pure=c.pure):pU F' c' v s=pU F c v s:=by
 have hv:c'.vers.map Vs.pure=c.vers.map Vs.pure:=congrArg PC.vers hc
 have hl:c'.vers.length=c.vers.length:=by have h:=congrArg List.length hv;rw[aEg,aEg]at h;exact h
 have h:(Ei s none (c'.vers.take v)).map Hd.pure=(Ei s none (c.vers.take v)).map Hd.pure:=by rw[bZ,bZ,List.map_take,List.map_take,hv]
 have hcode:∀x x':Hd,x'.pure=x.pure→Gh F' c' x'=Gh F c x:=fun x x' e=>by
  show cB (ccR F'.pure c'.name c'.vars x'.ps) (Ba x'.body) 0=cB (ccR F.pure c.name c.vars x.ps) (Ba x.body) 0
  rw[hp,show c'.name=c.name from congrArg PC.name hc,show c'.vars=c.vars from congrArg PC.vars hc,show x'.ps=x.ps from congrArg PH.ps e,show Ba x'.body=Ba x.body from congrArg PH.body e]
 unfold pU
 rw[hl]
 split
 ·rfl
 · cases h1:Ei s none (c'.vers.take v)with
   | none=>
     cases h2:Ei s none (c.vers.take v)with
     |none=>rfl
     |some x=>rw[h1,h2]at h;cases h
   | some x'=>
     cases h2:Ei s none (c.vers.take v)with
     |none=>rw[h1,h2]at h;cases h
     | some x=>
       rw[h1,h2]at h
       have e:x'.pure=x.pure:=aEn h
       show(⟨true,x'.ps.length,(Et (Gh F' c' x')).1,Gh F' c' x'⟩:RU)=⟨true,x.ps.length,(Et (Gh F c x)).1,Gh F c x⟩
       rw[hcode x x' e,show x'.ps=x.ps from congrArg PH.ps e]
theorem TW(hp:F'.pure=F.pure)(hc:F.comps[k]?=some c):∃c',F'.comps[k]?=some c'∧c'.pure=c.pure:=YN (f:=Cm.pure) (congrArg PF.comps hp).symm hc
theorem aCg(hc:c'.pure=c.pure):hnames (c'.vers.map Vs.pure)=hnames (c.vers.map Vs.pure):=congrArg hnames (congrArg PC.vers hc)
theorem OD(hv:1≤v∧v≤c.vers.length):pU F c v s=match Ei s none (c.vers.take v)with
 |none=>⟨false,0,0,[]⟩
 |some x=>⟨true,x.ps.length,(Et (Gh F c x)).1,Gh F c x⟩:=aEa om
theorem aCh(hv:1≤v∧v≤c.vers.length):(pU F c v s).ok=(Ei s none (c.vers.take v)).isSome:=by
 rw[OD hv]
 cases Ei s none (c.vers.take v)<;>rfl
theorem YO(hG:Ku F.pure)(hc:F.comps[k]?=some c):1≤(hnames (c.vers.map Vs.pure)).length∧(hnames (c.vers.map Vs.pure)).length≤3:=by
 have hX:=uG hG
 have hv1:=(hX.comp c (mog hc)).vers1
 obtain⟨ct,ar,ok⟩:=hG.okC (Oo hc)
 obtain⟨nn,hW⟩:=cmW hG hc
 have hvm:=mog (gge hv1)
 have hl:=(ok.vers c.vers[0].pure (aEv.2 ⟨_,hvm,rfl⟩)).1
 have hpl:c.vers[0].pure.length=c.vers[0].l.length:=aEg ..
 have h2:=(hW.each _ hvm 0 _ (gge om)).2
 rw[hW.hn,Dq]
 have:=hW.n3
 exact⟨by omega,this⟩
end
def nT(l:List Vr):Nat:=(l.filter fun v=>decide (v.ty=3)).length
def nV(l:List Vr):Nat:=(l.filter fun v=>decide (v.ty≠3)).length
theorem CK{l:List Vr}{j:Nat}{y:Vr}(h:l[j]?=some y):nT (l.take (j+1))=nT (l.take j)+(if y.ty=3 then 1 else 0):=by
 unfold nT
 rw[Cf h,List.filter_append,lap]
 by_cases e:y.ty=3<;>simp[e]
theorem CL{l:List Vr}{j:Nat}{y:Vr}(h:l[j]?=some y):nV (l.take (j+1))=nV (l.take j)+(if y.ty=3 then 0 else 1):=by
 unfold nV
 rw[Cf h,List.filter_append,lap]
 by_cases e:y.ty=3<;>simp[e]
theorem TY{F:Fl}(hG:Ku F.pure){c:Cm}{k:Nat}(hc:F.comps[k]?=some c):∃i t,(1≤i∧i≤3)∧t≤1∧c.vars=varsOf i t:=by
 obtain⟨ars,_,_,h⟩:=hG.comps
 obtain⟨i,t,ar,hi,ht,_,hv,_⟩:=(h k c.pure (Oo hc)).vers
 exact⟨i,t,hi,ht,hv⟩
theorem nVT{F:Fl}(hG:Ku F.pure){c:Cm}{k:Nat}(hc:F.comps[k]?=some c):nV c.vars≤4∧nT c.vars≤1:=by
 obtain⟨i,t,hi,ht,e⟩:=TY hG hc
 rw[e]
 have h:∀i,i<4→∀t,t<2→nV (varsOf i t)≤4∧nT (varsOf i t)≤1:=by decide+kernel
 exact h i om t om
structure aCi(U:RU):Prop where
 ver:Kg ((U.np:Nat):Int) U.st U.l=0
 len:U.l.length≤3816
 ops:∀x∈U.l,x.op<256
 np:U.np≤4
theorem aCj{F:Fl}(hG:Ku F.pure){c:Cm}{k v:Nat}{s:ByteArray}(hc:F.comps[k]?=some c)(hv:1≤v∧v≤c.vers.length)(h:(Ei s none (c.vers.take v)).isSome=true):aCi (pU F c v s):=by
 obtain⟨x,hx⟩:=Option.isSome_iff_exists.1 h
 have e:pU F c v s=⟨true,x.ps.length,(Et (Gh F c x)).1,Gh F c x⟩:=by rw[OD hv,hx]
 obtain⟨v',hv',hxm⟩:=kM hG hc hx
 have g:=Xe hG hc hv' hxm
 rw[e]
 exact⟨TS hG hc hv' hxm,g.len,fun i hi=>by have:=NI (g.form i hi);omega,by have:=g.ps;show x.ps.length≤4;omega⟩
end Go.Proofs.YtlihklladkagpaaGreatDoor

/- Own text. -/
import Derived.Test.YtllalpnmagpkfaaGreatDoorMb
import Derived.Test.YtllalpnmagpkfaaGreatDoorNa
set_option linter.unusedVariables false
set_option linter.unusedSimpArgs false
set_option maxHeartbeats 2000000
set_option maxRecDepth 100000
namespace Go.Proofs.YtllalpnmagpkfaaGreatDoor
open Go.Proofs.Tryz
open Go.RowKit Go.Flow Go.Mem Go.Sep Go.In
theorem height_rv{F:Fl}(h:GoodF F.pure){ci:Nat}{c:Cm}(hc:F.comps[ci]?=some c){v:Vs}(hv:v∈c.vers){x:Hd}(hx:x∈v.l):heightR (codeR F c x)=heightsV (codeR F c x):=by
 have g:=good_code h hc hv hx
 have hp:=g.ps
 obtain⟨t,e,_,_⟩:=heightsR h hc hv hx
 rcases height_eq (pr:=((x.ps.length:Nat):Int)) (l:=codeR F c x) (fun i hi=>by rw[←form_eq om];exact g.form i hi)with h|h
 ·exact h
 ·rw[e]at h;cases h.2
theorem pU_rU{F:Fl}(hG:GoodF F.pure){k:Nat}{c:Cm}(hc:F.comps[k]?=some c){v:Nat}(hv:1≤v∧v≤c.vers.length)(s:ByteArray):pU F c v s=rU F c v s:=by
 unfold pU rU
 rw[if_neg om]
 cases ho:fndV s none (c.vers.take v)with
 |none=>rfl
 | some x=>
   obtain⟨v',hv',hx⟩:=fnd_good hG hc ho
   show(⟨true,x.ps.length,(heightsV (codeR F c x)).1,codeR F c x⟩:RU)=⟨true,x.ps.length,(heightR (codeR F c x)).1,codeR F c x⟩
   rw[height_rv hG hc hv' hx]
theorem fndH_pure(s:ByteArray):∀(l:List Hd) (o:Option Hd),(fndH s o l).map Hd.pure=(l.map Hd.pure).foldl (fun r (y:PH)=>if y.name=s then some y else r) (o.map Hd.pure)
 |[],o=>rfl
 | y::r,o=>by
   rw[fndH_cons,fndH_pure s r,List.map_cons,List.foldl_cons]
   by_cases h:y.name=s
   ·rw[if_pos h,if_pos (show y.pure.name=s from h)];rfl
   ·rw[if_neg h,if_neg (show¬y.pure.name=s from h)]
theorem fndV_pure(s:ByteArray):∀(l:List Vs) (o:Option Hd),(fndV s o l).map Hd.pure=(l.map Vs.pure).foldl (fun r (v:List PH)=>v.foldl (fun r (y:PH)=>if y.name=s then some y else r) r) (o.map Hd.pure)
 |[],o=>rfl
 | v::r,o=>by
   show(fndV s (fndH s o v.l) r).map Hd.pure=_
   rw[fndV_pure s r,fndH_pure];rfl
theorem rU_pure{F F':Fl}(hp:F'.pure=F.pure){c c':Cm}(hc:c'.pure=c.pure)(v:Nat)(s:ByteArray):rU F' c' v s=rU F c v s:=by
 have hv:c'.vers.map Vs.pure=c.vers.map Vs.pure:=congrArg PC.vers hc
 have h:(fndV s none (c'.vers.take v)).map Hd.pure=(fndV s none (c.vers.take v)).map Hd.pure:=by rw[fndV_pure,fndV_pure,List.map_take,List.map_take,hv]
 have hcode:∀x x':Hd,x'.pure=x.pure→codeR F' c' x'=codeR F c x:=fun x x' e=>by
  show cB (ccR F'.pure c'.name c'.vars x'.ps) (St.pL x'.body) 0=cB (ccR F.pure c.name c.vars x.ps) (St.pL x.body) 0
  rw[hp,show c'.name=c.name from congrArg PC.name hc,show c'.vars=c.vars from congrArg PC.vars hc,show x'.ps=x.ps from congrArg PH.ps e,show St.pL x'.body=St.pL x.body from congrArg PH.body e]
 unfold rU
 cases h1:fndV s none (c'.vers.take v)with
 | none=>
   cases h2:fndV s none (c.vers.take v)with
   |none=>rfl
   |some x=>rw[h1,h2]at h;cases h
 | some x'=>
   cases h2:fndV s none (c.vers.take v)with
   |none=>rw[h1,h2]at h;cases h
   | some x=>
     rw[h1,h2]at h
     have e:x'.pure=x.pure:=Option.some.inj h
     show(⟨true,x'.ps.length,(heightR (codeR F' c' x')).1,codeR F' c' x'⟩:RU)=⟨true,x.ps.length,(heightR (codeR F c x)).1,codeR F c x⟩
     rw[hcode x x' e,show x'.ps=x.ps from congrArg PH.ps e]
def zU:RU:=⟨false,0,0,[]⟩
def UU(F:Fl)(x v h:Int):RU:=if x<0 then zU else match F.comps[x.toNat]? with
 |none=>zU
 | some c=>if v<1∨(c.vers.length:Int)<v∨h<0 then zU else match(hnames (c.vers.map Vs.pure))[h.toNat]? with
   |none=>zU
   |some s=>rU F c v.toNat s
theorem UU_pure{F F':Fl}(hp:F'.pure=F.pure)(x v h:Int):UU F' x v h=UU F x v h:=by
 have hcp:F'.comps.map Cm.pure=F.comps.map Cm.pure:=congrArg PF.comps hp
 unfold UU
 by_cases hx:x<0
 ·rw[if_pos hx,if_pos hx]
 · rw [if_neg hx,if_neg hx]
   cases h1:F'.comps[x.toNat]? with
   | none=>
     have h2:(F.comps.map Cm.pure)[x.toNat]?=none:=by rw[←hcp,List.getElem?_map,h1];rfl
     rw[List.getElem?_map]at h2
     rw[Option.map_eq_none_iff.1 h2]
   | some c'=>
     obtain⟨c,h2,hc⟩:=map_at hcp h1
     have hv:c'.vers.map Vs.pure=c.vers.map Vs.pure:=congrArg PC.vers hc.symm
     have hl:c'.vers.length=c.vers.length:=by have h:=congrArg List.length hv;rw[List.length_map,List.length_map]at h;exact h
     rw[h2]
     show(if v<1∨(c'.vers.length:Int)<v∨h<0 then zU else match(hnames (c'.vers.map Vs.pure))[h.toNat]? with|none=>zU|some s=>rU F' c' v.toNat s)=(if v<1∨(c.vers.length:Int)<v∨h<0 then zU else match(hnames (c.vers.map Vs.pure))[h.toNat]? with|none=>zU|some s=>rU F c v.toNat s)
     rw[hl,hv]
     split
     ·rfl
     · split
       ·rfl
       ·exact rU_pure hp hc.symm _ _
theorem UU_some{F:Fl}{x v h:Int}{k n m:Nat}{c:Cm}{s:ByteArray}(hx:x=(k:Int))(hc:F.comps[k]?=some c)(hv:v=(n:Int))(hn:1≤n∧n≤c.vers.length)(hh:h=(m:Int))(hs:(hnames (c.vers.map Vs.pure))[m]?=some s):UU F x v h=rU F c n s:=by
 subst hx;subst hv;subst hh
 unfold UU
 rw[if_neg om,Int.toNat_natCast,hc]
 show(if(n:Int)<1∨(c.vers.length:Int)<n∨(m:Int)<0 then zU else match(hnames (c.vers.map Vs.pure))[((m:Nat):Int).toNat]? with|none=>zU|some s=>rU F c ((n:Nat):Int).toNat s)=_
 rw[if_neg om,Int.toNat_natCast,Int.toNat_natCast,hs]
theorem UU_x{F:Fl}{x:Int}(v h:Int)(hx:x<0∨(F.comps.length:Int)≤x):UU F x v h=zU:=by
 unfold UU
 by_cases h0:x<0
 ·rw[if_pos h0]
 ·rw[if_neg h0,List.getElem?_eq_none om]
theorem UU_v{F:Fl}{k:Nat}{c:Cm}(hc:F.comps[k]?=some c){v:Int}(h:Int)(hv:v<1∨(c.vers.length:Int)<v):UU F ((k:Nat):Int) v h=zU:=by
 unfold UU
 rw[if_neg om,Int.toNat_natCast,hc]
 exact if_pos om
theorem UU_h{F:Fl}{k:Nat}{c:Cm}(hc:F.comps[k]?=some c){v h:Int}(hh:h<0∨((hnames (c.vers.map Vs.pure)).length:Int)≤h):UU F ((k:Nat):Int) v h=zU:=by
 unfold UU
 rw[if_neg om,Int.toNat_natCast,hc]
 show(if v<1∨(c.vers.length:Int)<v∨h<0 then zU else match(hnames (c.vers.map Vs.pure))[h.toNat]? with|none=>zU|some s=>rU F c v.toNat s)=zU
 split
 ·rfl
 ·rw[List.getElem?_eq_none om]
theorem rU_low{F:Fl}(h:GoodF F.pure){ci:Nat}{c:Cm}(hc:F.comps[ci]?=some c)(vn:Nat)(s:ByteArray):(rU F c vn s).l.length≤3816∧∀x∈(rU F c vn s).l,x.op<256:=by
 cases ho:fndV s none (c.vers.take vn)with
 | none=>
   have e:rU F c vn s=⟨false,0,0,[]⟩:=by unfold rU;rw[ho]
   rw[e];exact⟨Nat.zero_le _,fun x hx=>(by cases hx)⟩
 | some x=>
   have e:rU F c vn s=⟨true,x.ps.length,(heightR (codeR F c x)).1,codeR F c x⟩:=by unfold rU;rw[ho]
   obtain⟨v,hv,hx⟩:=fnd_good h hc ho
   have g:=good_code h hc hv hx
   rw[e]
   exact⟨g.len,fun i hi=>by have:=formR_op (g.form i hi);omega⟩
theorem UU_low{F:Fl}(hG:GoodF F.pure)(x v h:Int):(UU F x v h).l.length≤3816∧∀i∈(UU F x v h).l,i.op<256:=by
 have z:zU.l.length≤3816∧∀i∈zU.l,i.op<256:=⟨Nat.zero_le _,fun x hx=>(by cases hx)⟩
 unfold UU
 split
 ·exact z
 · cases hc:F.comps[x.toNat]? with
   |none=>exact z
   | some c=>
     show((if v<1∨(c.vers.length:Int)<v∨h<0 then zU else match(hnames (c.vers.map Vs.pure))[h.toNat]? with|none=>zU|some s=>rU F c v.toNat s):RU).l.length≤3816∧∀i∈((if v<1∨(c.vers.length:Int)<v∨h<0 then zU else match(hnames (c.vers.map Vs.pure))[h.toNat]? with|none=>zU|some s=>rU F c v.toNat s):RU).l,i.op<256
     split
     ·exact z
     · split
       ·exact z
       ·exact rU_low hG hc _ _
theorem nums(F:Fl)(x v h:Int):(x<0∨(F.comps.length:Int)≤x)∨∃(k:Nat) (c:Cm),x=(k:Int)∧F.comps[k]?=some c∧((v<1∨(c.vers.length:Int)<v)∨∃n:Nat,v=(n:Int)∧(1≤n∧n≤c.vers.length)∧((h<0∨((hnames (c.vers.map Vs.pure)).length:Int)≤h)∨∃(m:Nat) (s:ByteArray),h=(m:Int)∧(hnames (c.vers.map Vs.pure))[m]?=some s)):=by
 by_cases hx:x<0∨(F.comps.length:Int)≤x
 ·exact .inl hx
 · refine .inr ⟨x.toNat,F.comps[x.toNat]'om,by omega,gge _,?_⟩
   generalize F.comps[x.toNat]'om=c
   by_cases hv:v<1∨(c.vers.length:Int)<v
   ·exact .inl hv
   · refine .inr ⟨v.toNat,by omega,by omega,?_⟩
     by_cases hh:h<0∨((hnames (c.vers.map Vs.pure)).length:Int)≤h
     ·exact .inl hh
     ·exact .inr ⟨h.toNat,(hnames (c.vers.map Vs.pure))[h.toNat]'om,by omega,gge _⟩
section
variable{F:Fl}{ps:List PP}
theorem punit_any(b:Nat)(A:OA)(q:Nat)(hP:ProgOk F ps)(hG:GoodF F.pure)(x v h:Int):
    Dz 15 [pv b, .int .i64 x, .int .i64 v, .int .i64 h] [all (pgk b A q ps)] (fun r Γ'=>∃(B:OA) (m:Nat),r= .tuple #[.agg #[nv ((UU F x v h).np), .int .i64 (UU F x v h).st, .slice B (UU F x v h).l.length m], .bool (UU F x v h).ok]∧Γ'=[rows Ins.cells 109 4 B m (UU F x v h).l]):=by
 rcases nums F x v h with hx|⟨k,c,rfl,hc,hr⟩
 · rw[UU_x v h hx]
   exact(Does.nilR' (punitX_fn b A q ps x v h (by rw[hP.len];exact hx))).mono fun r Γ' ⟨h1,h2⟩=>⟨none,0,h1,h2⟩
 · obtain⟨p,hp,hpp⟩:=prog_at hP hc
   have hX:=goodX hG
   have hpl:ps.length≤12:=by rw[hP.len];have:=hX.comps;omega
   rcases hr with hv|⟨n,rfl,hn,hr⟩
   · rw[UU_v hc h hv]
     exact(Does.nilR' (punitV_fn b A q ps k p hp hpl v h (by rw[hpp.ul];omega))).mono fun r Γ' ⟨h1,h2⟩=>⟨none,0,h1,h2⟩
   · rcases hr with hh|⟨m,s,rfl,hs⟩
     · rw[UU_h hc hh]
       exact(Does.nilR' (punitV_fn b A q ps k p hp hpl _ h (by rw[hpp.names];omega))).mono fun r Γ' ⟨h1,h2⟩=>⟨none,0,h1,h2⟩
     · rw[UU_some rfl hc rfl hn rfl hs,←pU_rU hG hc hn]
       exact punit_at b A q hP hG hc hs n
theorem rcompile_any(hG:GoodF F.pure)(x v h:Int):
    Dz 14 [.agg (cF F []).toArray, .int .i64 x, .int .i64 v, .int .i64 h] [all (F.kids eR)] (fun r Γ'=>∃(B:OA) (m:Nat),r= .tuple #[.agg #[nv ((UU F x v h).np), .int .i64 (UU F x v h).st, .slice B (UU F x v h).l.length m], .bool (UU F x v h).ok]∧Γ'=[rows Ins.rc 54 4 B m (UU F x v h).l]):=by
 rcases nums F x v h with hx|⟨k,c,rfl,hc,hr⟩
 · rw[UU_x v h hx]
   exact(Does.nilR' (rcompileX_fn F x v h hx)).mono fun r Γ' ⟨h1,h2⟩=>⟨none,0,h1,h2⟩
 · rcases hr with hv|⟨n,rfl,hn,hr⟩
   · rw[UU_v hc h hv]
     exact(Does.nilR' (rcompileV_fn F hG k c hc v h hv)).mono fun r Γ' ⟨h1,h2⟩=>⟨none,0,h1,h2⟩
   · rcases hr with hh|⟨m,s,rfl,hs⟩
     · rw[UU_h hc hh]
       exact(Does.nilR' (rcompileH_fn F hG k c hc n hn h hh)).mono fun r Γ' ⟨h1,h2⟩=>⟨none,0,h1,h2⟩
     · rw[UU_some rfl hc rfl hn rfl hs]
       exact rcompile_fn F hG k c hc n m hn (List.getElem?_eq_some_iff.1 hs).1 s hs
end
open Go.RowKit Go.Flow Go.Mem Go.Sep
theorem flatIn:FlatTy prog 109 [.u8, .i64, .i64, .i64]:=⟨⟨_,underlying109,by kernel_rfl⟩,by kernel_rfl,by kernel_rfl⟩
theorem same_fn(pr st:Int)(A1 A2:OA)(q1 q2:Nat)(l:List Ins)(hl:l.length≤1000000):
    Dz 16 [.agg #[.int .i64 pr, .int .i64 st,vs A1 l q1], .agg #[.int .i64 pr, .int .i64 st,vs A2 l q2]] [ros Ins.cells A1 l,ros Ins.cells A2 l] (fun v _=>v= .bool true):=by
 refine Does.en func16 ntmps16 fun w0=>?_
 refine Js (To.g (Jbo fun b2=>?_))
 refine Jbo fun b3=>?_
 refine Jz 11 ?_
 refine JgP ?_ ?_<;>intro g11
 exact absurd rfl g11
 refine Jz 6 ?_
 refine JgP ?_ ?_<;>intro g18
 exact absurd rfl g18
 refine Jz 10 ?_
 refine Jcp rfl ?_ ?_<;>intro c26
 exact absurd rfl c26
 refine Jz 12 ?_
 refine Jonly [1,0,0,0] rfl (To.loG (fun s g mz ρ Γ=>∃(i:Nat),ρ=[s 2,s 3,s 29,(30,nv i)]∧Γ=[g 0,g 1,g 2,g 3]∧mz=l.length-i∧(i≤l.length)) ⟨⟨0,rfl,rfl,rfl,(Nat.zero_le _)⟩,sb⟩ ?_)
 rintro mz _ _ ⟨i,rfl,rfl,rfl,hi⟩
 refine Jz 6 ?_
 refine Jcp rfl ?_ ?_<;>intro c31
 obtain⟨x,hx⟩:=exg l i om
 refine Jz 11 ?_
 refine Jfw [box b2 [.int .i64 pr, .int .i64 st,vs A1 l q1] 42,box b3 [.int .i64 pr, .int .i64 st,vs A2 l q2] 42,ros Ins.cells A1 l,ros Ins.cells A2 l] [0,1,2,5,6,7,103,4,108,9,10] (ocs (oca 0 rfl) (ocs (oca 1 rfl) (ocs (oca 2 rfl) (ocs (oca 3 rfl) (ocn _))))) ?_
 refine Jz 10 ?_
 refine Fw.f rfl (Rd.as (v':= .bool (false)) (congrArg Value.bool (decide_eq_false (fun h=>h rfl))) (Rd.neqF (ks:=[.u8, .i64, .i64, .i64]) (xs:=[((x.op:Nat):Int),x.a,x.b,x.n]) (ys:=[((x.op:Nat):Int),x.a,x.b,x.n]) flatIn rfl rfl rfl rfl rfl)) ?_
 refine Jz 11 ?_
 refine Jonly [0,0,0,0] rfl (To.agT ⟨⟨i+1,rfl,rfl,rfl,om⟩,sb⟩)
 refine Jz 11 ?_
 refine Jonly [] rfl (Je1 results16 ?_)
 rfl
end Go.Proofs.YtllalpnmagpkfaaGreatDoor

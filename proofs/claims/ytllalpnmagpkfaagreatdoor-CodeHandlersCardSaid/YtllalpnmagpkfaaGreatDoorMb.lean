/- Own text. -/
import Derived.Test.YtllalpnmagpkfaaGreatDoorMa
set_option linter.unusedVariables false
set_option linter.unusedSimpArgs false
namespace Go.Proofs.YtllalpnmagpkfaaGreatDoor
open Go.Proofs.Tryz
open Go.RowKit Go.Flow Go.Mem Go.Sep Go.In
def pU(F:Fl)(c:Cm)(v:Nat)(s:ByteArray):RU:=if v=0∨c.vers.length<v then⟨false,0,0,[]⟩else match fndV s none (c.vers.take v)with
 |none=>⟨false,0,0,[]⟩
 |some x=>⟨true,x.ps.length,(heightsV (codeR F c x)).1,codeR F c x⟩
theorem Does.nilR{P:Program}{f:FuncId}{args:List Value}{Γ:List Chunk}{v:Value}{α:Type}{enc:α→List Value}{e:TypeId}{size:Nat}(h:Does P f args Γ (fun r Γ'=>r=v∧Γ'=[])):Does P f args Γ (fun r Γ'=>r=v∧Γ'=[rows enc e size none 0 ([]:List α)]):=fun w hs=>(h w hs).mono fun x w' ⟨r,Γ',h1,⟨h2,h3⟩,h4⟩=>by
 subst h3
 have hk:Post [] [rows enc e size none 0 ([]:List α)] w' w':=(show To ⟨0,[],w',[]⟩ [] [] (fun _ w2=>w2=w'→Post [] [rows enc e size none 0 ([]:List α)] w' w')from JnilRow (enc:=enc) (e:=e) (size:=size) (fun _ w2 _ hp e2=>by subst e2;exact hp)) _ w' (Has.start [] 0 rfl) (Post.refl h4.sat) rfl
 exact⟨r,_,h1,⟨h2,rfl⟩,h4.trans hk⟩
theorem Does.nilR'{P:Program}{f:FuncId}{args:List Value}{Γ:List Chunk}{α:Type}{enc:α→List Value}{e:TypeId}{size:Nat}(h:Does P f args Γ (fun r Γ'=>r= .tuple #[.agg #[.int .i64 0, .int .i64 0, .slice none 0 0], .bool false]∧Γ'=[])):Does P f args Γ (fun r Γ'=>r= .tuple #[.agg #[.int .i64 0, .int .i64 0, .slice none 0 0], .bool false]∧Γ'=[rows enc e size none 0 ([]:List α)]):=Does.nilR h
section
variable{F:Fl}{ps:List PP}{k:Nat}{c:Cm}{h:Nat}{s:ByteArray}
theorem punit_at(b:Nat)(A:OA)(q:Nat)(hP:ProgOk F ps)(hG:GoodF F.pure)(hc:F.comps[k]?=some c)(hs:(hnames (c.vers.map Vs.pure))[h]?=some s)(v:Nat):
    Dz 15 [pv b,nv k,nv v,nv h] [all (pgk b A q ps)] (fun r Γ'=>∃(B:OA) (m:Nat),r= .tuple #[.agg #[nv ((pU F c v s).np), .int .i64 (pU F c v s).st, .slice B (pU F c v s).l.length m], .bool (pU F c v s).ok]∧Γ'=[rows Ins.cells 109 4 B m (pU F c v s).l]):=by
 obtain⟨p,hp,hpp⟩:=prog_at hP hc
 have hX:=goodX hG
 have hpl:ps.length≤12:=by rw[hP.len];have:=hX.comps;omega
 have hcv:=(hX.comp c (mog hc)).vers2
 have hul:=hpp.ul
 have hn:p.names[h]?=some s:=by rw[hpp.names];exact hs
 by_cases hv:v=0∨c.vers.length<v
 · have e:pU F c v s=⟨false,0,0,[]⟩:=if_pos hv
   rw[e]
   exact(Does.nilR' (punitO_fn b A q ps k p hp hpl v h om)).mono fun r Γ' ⟨h1,h2⟩=>⟨none,0,h1,h2⟩
 · obtain⟨n,rfl⟩:∃n,v=n+1:=⟨v-1,by omega⟩
   obtain⟨vv,f,u,t,h1,h2,h3,h4,h5⟩:=unit_at hpp (n:=n) om hn
   have e:pU F c (n+1) s=match fndV s none (c.vers.take (n+1))with|none=>⟨false,0,0,[]⟩|some x=>⟨true,x.ps.length,(heightsV (codeR F c x)).1,codeR F c x⟩:=if_neg hv
   have hhl:=(List.getElem?_eq_some_iff.1 hn).1
   cases ho:fndV s none (c.vers.take (n+1))with
   | none=>
     rw[ho]at h5 e
     obtain⟨rfl,rfl⟩:=h5
     rw[e]
     exact(Does.nilR' (punitF_fn b A q ps k p hp hpl n vv h1 f h2 h hhl zPU h3 h4 (Nat.zero_le _) om)).mono fun r Γ' ⟨h1,h2⟩=>⟨none,0,h1,h2⟩
   | some x=>
     rw[ho]at h5 e
     obtain⟨rfl,B,m,rfl⟩:=h5
     rw[e]
     obtain⟨v',hv',hx⟩:=fnd_good hG hc ho
     have g:=(good_code hG hc hv' hx).len
     exact punit_fn b A q ps k p hp hpl n vv h1 f h2 h hhl _ h3 h4 (by show(codeR F c x).length≤_;omega) om
end
def costs(l:List Ins):Nat:=(l.filter fun x=>decide (x.op=29)).length
theorem costs_app(l m:List Ins):costs (l++m)=costs l+costs m:=by simp[costs]
theorem costs_cons(x:Ins)(l:List Ins):costs (x::l)=(if x.op=29 then 1 else 0)+costs l:=by
 unfold costs
 by_cases h:x.op=29
 ·simp[h];omega
 ·simp[h]
theorem costs_one{x:Ins}(h:x.op≠29):costs [x]=0:=by rw[costs_cons,if_neg h];rfl
theorem opI_cost{c:Cc}(hc:c.Loads){op:Nat}(s:ByteArray)(n:Int)(h:(1≤op∧op≤23)):costs [opI c op s n]=0:=by
 have h0:=hc s
 refine costs_one ?_
 unfold opI
 split
 ·show(1:Nat)≠29;decide
 · split
   ·show(1:Nat)≠29;decide
   · split
     ·show(1:Nat)≠29;decide
     · split
       ·show(5:Nat)≠29;decide
       · split
         ·omega
         · split
           ·show op≠29;omega
           ·show op≠29;omega
theorem WfE.cost{c:Cc}(hc:c.Loads){d:Nat}{e:PE}(h:WfE d e):costs (cE c e)=0:=by
 induction h with
 |leaf d op s n h=>exact opI_cost hc s n om
 | un d op s n a h ha ih=>
   show costs ((cE c a++[])++[opI c op s n])=0
   rw[costs_app,costs_app,ih,opI_cost hc s n om];rfl
 | bin d op s n a b h ha hb iha ihb=>
   show costs ((cE c a++(cE c b++[]))++[opI c op s n])=0
   rw[costs_app,costs_app,costs_app,iha,ihb,opI_cost hc s n om];rfl
theorem map_at{α β:Type}{f:α→β}{l m:List α}(h:l.map f=m.map f){i:Nat}{x:α}(hx:l[i]?=some x):∃y,m[i]?=some y∧f y=f x:=by
 have h1:(m.map f)[i]?=some (f x):=by rw[←h,List.getElem?_map,hx];rfl
 rw[List.getElem?_map]at h1
 exact Option.map_eq_some_iff.1 h1
section
variable{F:Fl}{ps:List PP}{k:Nat}{c:Cm}
end
end Go.Proofs.YtllalpnmagpkfaaGreatDoor

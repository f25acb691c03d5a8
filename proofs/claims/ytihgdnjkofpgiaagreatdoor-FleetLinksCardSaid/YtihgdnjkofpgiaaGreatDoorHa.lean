/- Own text. -/
import Derived.Test.YtihgdnjkofpgiaaGreatDoorGa
set_option linter.unusedVariables false
set_option linter.unusedSimpArgs false
namespace Go.Proofs.YtihgdnjkofpgiaaGreatDoor
open Go.RowKit Go.Flow Go.Mem Go.Sep Go.In
inductive WfE:Nat→PE→Prop
 |leaf (d op:Nat) (s:yB) (n:Int) (h:(1≤op∧op≤5)∨op=8):WfE d ⟨op,s,n,[]⟩
 |un (d op:Nat) (s:yB) (n:Int) (a:PE) (h:op=6∨op=7∨op=9∨op=10) (ha:WfE d a):WfE (d+1) ⟨op,s,n,[a]⟩
 |bin (d op:Nat) (s:yB) (n:Int) (a b:PE) (h:11≤op∧op≤23) (ha:WfE d a) (hb:WfE d b):WfE (d+1) ⟨op,s,n,[a,b]⟩
theorem WfE.up{d d':Nat}{e:PE}(h:WfE d e)(hd:d≤d'):WfE d' e:=by
 induction h generalizing d' with
 |leaf d op s n h=>exact .leaf _ _ _ _ h
 |un d op s n a h _ ih=>obtain⟨k,rfl⟩:∃k,d'=k+1:=⟨d'-1,by omega⟩;exact .un _ _ _ _ _ h (ih om)
 |bin d op s n a b h _ _ iha ihb=>obtain⟨k,rfl⟩:∃k,d'=k+1:=⟨d'-1,by omega⟩;exact .bin _ _ _ _ _ _ h (iha om) (ihb om)
theorem Kq.wf{c:Ct}{np d:Nat}{e:PE}(h:Kq c np d e):WfE d e:=by
 induction h with
 |num d n h=>exact .leaf _ _ _ _ om
 |var d k h=>exact .leaf _ _ _ _ om
 |par d k h=>exact .leaf _ _ _ _ om
 |now d=>exact .leaf _ _ _ _ om
 |get d e ht h ih=>exact .un _ _ _ _ _ om ih
 |size d ht=>exact .leaf _ _ _ _ om
 |neg d e h ih=>exact .un _ _ _ _ _ om ih
 |bin d op a b ho ha hb iha ihb=>exact .bin _ _ _ _ _ _ om iha ihb
theorem Ow.wf{c:Ct}{np d:Nat}{e:PE}(h:Ow c np d e):WfE (d+3) e:=by
 induction h with
 |tf d op h=>exact .leaf _ _ _ _ om
 |b0 d=>exact .leaf _ _ _ _ om
 |flag d k h=>exact .leaf _ _ _ _ om
 |has d e ht h=>exact .un _ _ _ _ _ om (h.wf.up om)
 |not d e h ih=>exact .un _ _ _ _ _ om ih
 |two d op a b ho ha hb iha ihb=>exact .bin _ _ _ _ _ _ om iha ihb
 |cmp d op a b ho ha hb=>exact .bin _ _ _ _ _ _ om (ha.wf.up om) (hb.wf.up om)
def Zr(h:List Int)(j:Nat):Prop:=h.getD j 0=-1∨h.getD j 0=0
structure Pre(L:Nat)(h:List Int)(p n:Nat):Prop where
 len:h.length=L+1
 le:p+n≤L
 at0:Zr h p
 mid:∀j,p<j→j<p+n→h.getD j 0=-1
 fin:Zr h (p+n)
structure Pst(L:Nat)(h h':List Int)(p n:Nat):Prop where
 len:h'.length=L+1
 fin:Zr h' (p+n)
 hi:∀j,p+n<j→h'.getD j 0=h.getD j 0
 lo:∀j,j<p→h'.getD j 0=h.getD j 0
 at0:0<n→h'.getD p 0=0
def hdC(c:Cc)(es:List PE):List Ins:=(⟨29,0,0,0⟩:Ins)::cEs c es
inductive WfS:PS→Prop
 |one (k:Nat) (s h:yB) (es:List PE) (hk:(k=1∧es.length=1)∨(k=2∧es.length=2)∨(k=3∧es.length=1)∨(k=6∧es.length≤4)∨(k=7∧1≤es.length∧es.length≤5)) (he:∀e∈es,WfE 5 e):WfS ⟨k,s,h,es,[],[]⟩
 |ife (s h:yB) (a:PE) (t e:List PS) (ha:WfE 5 a) (ht:∀x∈t,WfS x) (he:∀x∈e,WfS x):WfS ⟨4,s,h,[a],t,e⟩
 |whl (s h:yB) (a:PE) (t:List PS) (ha:WfE 5 a) (ht:∀x∈t,WfS x):WfS ⟨5,s,h,[a],t,[]⟩
 |sto (s h:yB) (a b:PE) (e:List PS) (ha:WfE 5 a) (hb:WfE 5 b) (he:∀x∈e,WfS x):WfS ⟨8,s,h,[a,b],[],e⟩
 |fet (s h:yB) (a:PE) (e:List PS) (ha:WfE 5 a) (he:∀x∈e,WfS x):WfS ⟨9,s,h,[a],[],e⟩
 |stop (s h:yB):WfS ⟨10,s,h,[],[],[]⟩
theorem iO{P:PE→Prop}{a:PE}(h:P a):∀e∈[a],P e:=fun e he=>by rw[aNz.1 he];exact h
theorem aAn{P:PE→Prop}{a b:PE}(h:P a)(k:P b):∀e∈[a,b],P e:=fun e he=>by
 rcases aNx.1 he with rfl|he
 ·exact h
 ·rw[aNz.1 he];exact k
theorem StE.wf{c:Ct}(hc:c.Ok){np d:Nat}{s:PS}(h:StE c np d s):WfS s:=by
 induction h with
 |setB d e h=>exact .one _ _ _ _ sm (iO h.wf)
 |setX d k e hk h=>exact .one _ _ _ _ sm (iO (h.wf.up om))
 |put d a b ht ha hb=>exact .one _ _ _ _ sm (aAn (ha.wf.up om) (hb.wf.up om))
 |del d a ht ha=>exact .one _ _ _ _ sm (iO (ha.wf.up om))
 |ife d e t l h ht hl iht ihl=>exact .ife _ _ _ _ _ h.wf iht ihl
 |whl d e t h ht iht=>exact .whl _ _ _ _ h.wf iht
 | send d to h ar l ha hh hl=>
   have h2:=(hc.each ar (sN ha)).2.2 _ (sN hh);exact .one _ _ _ _ (.inr (.inr (.inr (.inl ⟨rfl,by omega⟩)))) fun e he=>(hl e he).wf.up om
 | after d h ar e l ha hh he hl=>
   have h2:=(hc.each ar (sN ha)).2.2 _ (sN hh);exact .one _ _ _ _ (.inr (.inr (.inr (.inr ⟨rfl,by rw[ag];omega,by rw[ag];omega⟩)))) fun x hx=>by
    rcases aNx.1 hx with rfl|hx
    ·exact he.wf.up om
    ·exact(hl x hx).wf.up om
 |store d a b l ha hb hl ihl=>exact .sto _ _ _ _ _ (ha.wf.up om) (hb.wf.up om) ihl
 |fetch d k e l hk h hl ihl=>exact .fet _ _ _ _ (h.wf.up om) ihl
 |stop d=>exact .stop _ _
theorem uV(c:Cc)(op:Nat)(s:yB)(n:Int)(l:List Ins):(l++[opI c op s n]).length=l.length+1:=by rw[aj];rfl
theorem WfE.len{c:Cc}{d:Nat}{e:PE}(h:WfE d e):(cE c e).length<2^(d+1):=by
 induction h with
 | leaf d op s n h=>
   show(([]:List Ins)++[opI c op s n]).length<_;have:1≤2^d:=Nat.one_le_two_pow;rw[uV,Nat.pow_succ];show 0+1<_;omega
 | un d op s n a h ha ih=>
   show((cE c a++[])++[opI c op s n]).length<_;have:1≤2^d:=Nat.one_le_two_pow;rw[uV,aOo];rw[Nat.pow_succ]at ih;rw[Nat.pow_succ,Nat.pow_succ];omega
 | bin d op s n a b h ha hb iha ihb=>
   show((cE c a++(cE c b++[]))++[opI c op s n]).length<_;rw[uV,aOo,aj,Nat.pow_succ];omega
theorem Yq{c:Cc}:∀(l:List PE),(∀e∈l,WfE 5 e)→(cEs c l).length≤63*l.length
 |[],_=>aOk _
 | e::r,h=>by
   have h1:(cE c e).length<2^6:=(h e (aNu ..)).len;have h2:=Yq (c:=c) r fun x hx=>h x (aNs _ hx);show(cE c e++cEs c r).length≤_;rw[aj,ag];omega
theorem uW(p:Nat)(e:List Ins)(b:Bool):(ovr p e b).length≤e.length+1:=by
 cases b
 ·exact aOd _
 ·exact aOk _
theorem aB{c:Cc}:∀(l:List PS) (p:Nat),(∀s∈l,∀p,(cS c s p).length≤318*s.cnt)→(cB c l p).length≤318*Be l
 |[],p,_=>aOk _
 | s::r,p,h=>by
   show(cS c s p++cB c r _).length≤318*(s.cnt+Be r);have h1:=h s (aNu ..) p;have h2:=aB r (p+(cS c s p).length) fun x hx=>h x (aNs _ hx);rw[aj];omega
theorem aFx{c:Cc}{s:PS}(h:WfS s):∀p,(cS c s p).length≤318*s.cnt:=by
 induction h with
 | one k s h es hk he=>
   intro p;have:=Yq (c:=c) es he;have hn:es.length≤5:=om;have e:(PS.cnt ⟨k,s,h,es,[],[]⟩)=1:=rfl;rw[e];rcases hk with⟨rfl,_⟩|⟨rfl,_⟩|⟨rfl,_⟩|⟨rfl,_⟩|⟨rfl,_⟩
   ·show(hdC c es++[(⟨24,c.vs s,0,0⟩:Ins)]).length≤_;rw[aj];show(cEs c es).length+1+1≤_;omega
   ·show(hdC c es++[(⟨25,c.ts s,0,0⟩:Ins)]).length≤_;rw[aj];show(cEs c es).length+1+1≤_;omega
   ·show(hdC c es++[(⟨26,c.ts s,0,0⟩:Ins)]).length≤_;rw[aj];show(cEs c es).length+1+1≤_;omega
   ·show(hdC c es++[(⟨30,(c.tg s h).1,(c.tg s h).2,((es.length:Nat):Int)⟩:Ins)]).length≤_;rw[aj];show(cEs c es).length+1+1≤_;omega
   ·show(hdC c es++[(⟨31,0,c.ah h,((es.length:Nat):Int)-1⟩:Ins)]).length≤_;rw[aj];show(cEs c es).length+1+1≤_;omega
 | ife s h a t e ha ht he iht ihe=>
   intro p;have h1:=Yq (c:=c) [a] (iO ha);obtain⟨r,hr⟩:∃r,p+(hdC c [a]).length+1=r:=⟨_,rfl⟩
   show(hdC c [a]++(⟨28,((p+(hdC c [a]).length+1+(cB c t (p+(hdC c [a]).length+1)).length+(if e.isEmpty then 0 else 1):Nat):Int),0,0⟩:Ins)::(cB c t (p+(hdC c [a]).length+1)++ovr (p+(hdC c [a]).length+1+(cB c t (p+(hdC c [a]).length+1)).length) (cB c e (p+(hdC c [a]).length+1+(cB c t (p+(hdC c [a]).length+1)).length+1)) e.isEmpty)).length≤318*(1+Be t+Be e);rw[hr];have h2:=aB t r iht;have h3:=aB e (r+(cB c t r).length+1) ihe;have h4:=uW (r+(cB c t r).length) (cB c e (r+(cB c t r).length+1)) e.isEmpty;rw[aj,ag,aj];have h5:(hdC c [a]).length=(cEs c [a]).length+1:=rfl;have h6:[a].length=1:=rfl;omega
 | whl s h a t ha ht iht=>
   intro p;have h1:=Yq (c:=c) [a] (iO ha);obtain⟨r,hr⟩:∃r,p+(hdC c [a]).length+1=r:=⟨_,rfl⟩
   show(hdC c [a]++(⟨28,((p+(hdC c [a]).length+1+(cB c t (p+(hdC c [a]).length+1)).length+1:Nat):Int),0,0⟩:Ins)::(cB c t (p+(hdC c [a]).length+1)++[(⟨27,((p:Nat):Int),0,0⟩:Ins)])).length≤318*(1+Be t+0);rw[hr];have h2:=aB t r iht;rw[aj,ag,aj];have h5:(hdC c [a]).length=(cEs c [a]).length+1:=rfl;have h6:[a].length=1:=rfl;have h7:[(⟨27,((p:Nat):Int),0,0⟩:Ins)].length=1:=rfl;omega
 | sto s h a b e ha hb he ihe=>
   intro p;have h1:=Yq (c:=c) [a,b] (aAn ha hb);obtain⟨r,hr⟩:∃r,p+(hdC c [a,b]).length+1=r:=⟨_,rfl⟩
   show(hdC c [a,b]++(⟨32,0,((p+(hdC c [a,b]).length+1+(if e.isEmpty then 0 else 1):Nat):Int),0⟩:Ins)::ovr (p+(hdC c [a,b]).length+1) (cB c e (p+(hdC c [a,b]).length+1+1)) e.isEmpty).length≤318*(1+0+Be e);rw[hr];have h3:=aB e (r+1) ihe;have h4:=uW r (cB c e (r+1)) e.isEmpty;rw[aj,ag];have h5:(hdC c [a,b]).length=(cEs c [a,b]).length+1:=rfl;have h6:[a,b].length=2:=rfl;omega
 | fet s h a e ha he ihe=>
   intro p;have h1:=Yq (c:=c) [a] (iO ha);obtain⟨r,hr⟩:∃r,p+(hdC c [a]).length+1=r:=⟨_,rfl⟩
   show(hdC c [a]++(⟨33,c.vs s,((p+(hdC c [a]).length+1+(if e.isEmpty then 0 else 1):Nat):Int),0⟩:Ins)::ovr (p+(hdC c [a]).length+1) (cB c e (p+(hdC c [a]).length+1+1)) e.isEmpty).length≤318*(1+0+Be e);rw[hr];have h3:=aB e (r+1) ihe;have h4:=uW r (cB c e (r+1)) e.isEmpty;rw[aj,ag];have h5:(hdC c [a]).length=(cEs c [a]).length+1:=rfl;have h6:[a].length=1:=rfl;omega
 |stop s h=>intro p;show 2≤318*1;omega
structure Cc.Is(cc:Cc)(c:Ct)(np:Nat):Prop where
 ldx:∀k,k<c.ints→cc.pn (nm 120 k)=⟨2,(k:Int),0,0⟩
 ldb:cc.pn nB0=⟨2,(c.ints:Int),0,0⟩
 ldp:∀k,k<np→cc.pn (nm 112 k)=⟨3,(k:Int),0,0⟩
 ldf:∀k,k<c.flags→cc.pn (nm 102 k)=⟨4,(k:Int),0,0⟩
 vsx:∀k,k<c.ints→cc.vs (nm 120 k)=(k:Int)
 vsb:cc.vs nB0=(c.ints:Int)
 ts:0<c.tables→cc.ts nT0=0
 tg:∀to ar h n,c.ars[to]?=some ar→ar[h]?=some n→cc.tg (nC to) (nm 104 h)=((to:Int),(h:Int))
 ah:∀ar h n,c.ars[c.own]?=some ar→ar[h]?=some n→cc.ah (nm 104 h)=(h:Int)
structure Each(c:Ct)(np:Nat)(Q:Ins→Prop):Prop where
 one:∀n:Int,0≤n→n<9→Q ⟨1,0,0,n⟩
 plain:∀op:Nat,op=5∨(9≤op∧op≤23)∨op=29∨op=34→Q ⟨op,0,0,0⟩
 ldx:∀k:Nat,k≤c.ints→Q ⟨2,(k:Int),0,0⟩
 ldp:∀k:Nat,k<np→Q ⟨3,(k:Int),0,0⟩
 ldf:∀k:Nat,k<c.flags→Q ⟨4,(k:Int),0,0⟩
 stx:∀k:Nat,k≤c.ints→Q ⟨24,(k:Int),0,0⟩
 tab:∀op:Nat,0<c.tables→(6≤op∧op≤8)∨op=25∨op=26→Q ⟨op,0,0,0⟩
 send:∀to h n:Nat,to<3→h<3→n≤2→Q ⟨30,(to:Int),(h:Int),(n:Int)⟩
 after:∀h n:Nat,h<3→n≤2→Q ⟨31,0,(h:Int),(n:Int)⟩
def Wj(Q:Ins→Prop)(l:List Ins):Prop:=∀x∈l,Q x
theorem Wj.nil{Q:Ins→Prop}:Wj Q []:=fun _ h=>by cases h
theorem Wj.cons{Q:Ins→Prop}{x:Ins}{l:List Ins}(h:Q x)(hl:Wj Q l):Wj Q (x::l):=fun y hy=>by
 rcases aNx.1 hy with rfl|hy
 ·exact h
 ·exact hl y hy
theorem Wj.app{Q:Ins→Prop}{l m:List Ins}(h:Wj Q l)(hm:Wj Q m):Wj Q (l++m):=fun y hy=>(aPi.1 hy).elim (h y) (hm y)
theorem Kq.all{cc:Cc}{c:Ct}{np d:Nat}{e:PE}{Q:Ins→Prop}(hq:Each c np Q)(hc:cc.Is c np)(h:Kq c np d e):Wj Q (cE cc e):=by
 induction h with
 |num d n h=>exact .cons (hq.one (n:Int) om om) .nil
 |var d k h=>exact .cons (by show Q (cc.pn _);rw[hc.ldx k h];exact hq.ldx k om) .nil
 |par d k h=>exact .cons (by show Q (cc.pn _);rw[hc.ldp k h];exact hq.ldp k h) .nil
 |now d=>exact .cons (hq.plain 5 om) .nil
 |get d e ht h ih=>exact .app (.app ih .nil) (.cons (by show Q ⟨6,cc.ts nT0,0,0⟩;rw[hc.ts ht];exact hq.tab 6 ht om) .nil)
 |size d ht=>exact .cons (by show Q ⟨8,cc.ts nT0,0,0⟩;rw[hc.ts ht];exact hq.tab 8 ht om) .nil
 |neg d e h ih=>exact .app (.app ih .nil) (.cons (hq.plain 9 om) .nil)
 | bin d op a b ho ha hb iha ihb=>
   refine .app (.app iha (.app ihb .nil)) (.cons ?_ .nil);unfold opI;rw[aNy om,aNy om,aNy om,aNy om,aNy om,aNy om];exact hq.plain op om
theorem Ow.all{cc:Cc}{c:Ct}{np d:Nat}{e:PE}{Q:Ins→Prop}(hq:Each c np Q)(hc:cc.Is c np)(h:Ow c np d e):Wj Q (cE cc e):=by
 induction h with
 | tf d op h=>
   rcases h with rfl|rfl
   ·exact .cons (hq.one 1 de de) .nil
   ·exact .cons (hq.one 0 de de) .nil
 |b0 d=>exact .cons (by show Q (cc.pn _);rw[hc.ldb];exact hq.ldx _ (aOd _)) .nil
 |flag d k h=>exact .cons (by show Q (cc.pn _);rw[hc.ldf k h];exact hq.ldf k h) .nil
 |has d e ht h=>exact .app (.app (h.all hq hc) .nil) (.cons (by show Q ⟨7,cc.ts nT0,0,0⟩;rw[hc.ts ht];exact hq.tab 7 ht om) .nil)
 |not d e h ih=>exact .app (.app ih .nil) (.cons (hq.plain 10 om) .nil)
 | two d op a b ho ha hb iha ihb=>
   refine .app (.app iha (.app ihb .nil)) (.cons ?_ .nil);unfold opI;rw[aNy om,aNy om,aNy om,aNy om,aNy om,aNy om];exact hq.plain op om
 | cmp d op a b ho ha hb=>
   refine .app (.app (ha.all hq hc) (.app (hb.all hq hc) .nil)) (.cons ?_ .nil);unfold opI;rw[aNy om,aNy om,aNy om,aNy om,aNy om,aNy om];exact hq.plain op om
theorem uX{cc:Cc}{Q:Ins→Prop}:∀{l:List PE},(∀e∈l,Wj Q (cE cc e))→Wj Q (cEs cc l)
 |[],_=> .nil
 |e::r,h=> .app (h e (aNu ..)) (uX fun x hx=>h x (aNs _ hx))
theorem uY{Q:Ins→Prop}{p:Nat}{e:List Ins}{b:Bool}(h:b=false→Q ⟨27,((p+1+e.length:Nat):Int),0,0⟩)(he:Wj Q e):Wj Q (ovr p e b):=by
 cases b
 ·exact .cons (h rfl) he
 ·exact .nil
structure aDn(n:Nat)(ints:Nat)(Q:Ins→Prop):Prop where
 jump:∀op t:Nat,op=27∨op=28→t≤n→Q ⟨op,(t:Int),0,0⟩
 store:∀t:Nat,t≤n→Q ⟨32,0,(t:Int),0⟩
 fetch:∀k t:Nat,k≤ints→t≤n→Q ⟨33,(k:Int),(t:Int),0⟩
theorem aC{cc:Cc}{Q:Ins→Prop}{n:Nat}:∀(l:List PS) (p:Nat),(∀s∈l,∀p,p+(cS cc s p).length≤n→Wj Q (cS cc s p))→p+(cB cc l p).length≤n→Wj Q (cB cc l p)
 |[],_,_,_=> .nil
 | s::r,p,h,hn=>by
   have hn:p+(cS cc s p++cB cc r (p+(cS cc s p).length)).length≤n:=hn;rw[aj]at hn;exact .app (h s (aNu ..) p om) (aC r _ (fun x hx=>h x (aNs _ hx)) om)
theorem StE.all{cc:Cc}{c:Ct}(hok:c.Ok){np d n:Nat}{s:PS}{Q:Ins→Prop}(hq:Each c np Q)(hj:aDn n c.ints Q)(hc:cc.Is c np)(h:StE c np d s):∀p,p+(cS cc s p).length≤n→Wj Q (cS cc s p):=by
 have cost:Q ⟨29,0,0,0⟩:=hq.plain 29 om
 induction h with
 |setB d e h=>intro p _;exact .app (.cons cost (.app (h.all hq hc) .nil)) (.cons (by show Q ⟨24,cc.vs nB0,0,0⟩;rw[hc.vsb];exact hq.stx _ (aOd _)) .nil)
 |setX d k e hk h=>intro p _;exact .app (.cons cost (.app (h.all hq hc) .nil)) (.cons (by show Q ⟨24,cc.vs (nm 120 k),0,0⟩;rw[hc.vsx k hk];exact hq.stx k om) .nil)
 |put d a b ht ha hb=>intro p _;exact .app (.cons cost (.app (ha.all hq hc) (.app (hb.all hq hc) .nil))) (.cons (by show Q ⟨25,cc.ts nT0,0,0⟩;rw[hc.ts ht];exact hq.tab 25 ht om) .nil)
 |del d a ht ha=>intro p _;exact .app (.cons cost (.app (ha.all hq hc) .nil)) (.cons (by show Q ⟨26,cc.ts nT0,0,0⟩;rw[hc.ts ht];exact hq.tab 26 ht om) .nil)
 | ife d e t l h ht hl iht ihl=>
   intro p;obtain⟨r,hr⟩:∃r,p+(hdC cc [e]).length+1=r:=⟨_,rfl⟩
   have e0:cS cc ⟨4,nE,nE,[e],t,l⟩ p=hdC cc [e]++⟨28,((r+(cB cc t r).length+(if l.isEmpty then 0 else 1):Nat):Int),0,0⟩::(cB cc t r++ovr (r+(cB cc t r).length) (cB cc l (r+(cB cc t r).length+1)) l.isEmpty):=by rw[←hr];rfl
   rw[e0,aj,ag,aj];intro hn;have hov:l.isEmpty=false→(ovr (r+(cB cc t r).length) (cB cc l (r+(cB cc t r).length+1)) l.isEmpty).length=(cB cc l (r+(cB cc t r).length+1)).length+1:=fun hb=>by rw[hb];rfl
   refine .app (.cons cost (.app (h.all hq hc) .nil)) (.cons (hj.jump 28 _ om ?_) (.app (aC t r iht om) ?_))
   · cases hb:l.isEmpty with
     |true=>rw[aOn rfl];omega
     |false=>rw[aNy Bool.false_ne_true];have:=hov hb;omega
   · cases hb:l.isEmpty with
     |true=>exact .nil
     | false=>
       have:=hov hb;exact uY (fun _=>hj.jump 27 _ om om) (aC l _ ihl om)
 | whl d e t h ht iht=>
   intro p;obtain⟨r,hr⟩:∃r,p+(hdC cc [e]).length+1=r:=⟨_,rfl⟩
   have e0:cS cc ⟨5,nE,nE,[e],t,[]⟩ p=hdC cc [e]++⟨28,((r+(cB cc t r).length+1:Nat):Int),0,0⟩::(cB cc t r++[⟨27,((p:Nat):Int),0,0⟩]):=by rw[←hr];rfl
   rw[e0,aj,ag,aj];have h7:[(⟨27,((p:Nat):Int),0,0⟩:Ins)].length=1:=rfl;intro hn;exact .app (.cons cost (.app (h.all hq hc) .nil)) (.cons (hj.jump 28 _ om om) (.app (aC t r iht om) (.cons (hj.jump 27 _ om om) .nil)))
 | send d to h ar l ha hh hl=>
   intro p _;have h3:=hok.each ar (sN ha);have h2:=h3.2.2 _ (sN hh);have h4:=(aNr.1 ha).1;have h5:=(aNr.1 hh).1;have h6:=hok.some;refine .app (.cons cost (uX fun x hx=>(hl x hx).all hq hc)) (.cons ?_ .nil);show Q ⟨30,(cc.tg (nC to) (nm 104 h)).1,(cc.tg (nC to) (nm 104 h)).2,((l.length:Nat):Int)⟩;rw[hc.tg to ar h _ ha hh];exact hq.send to h _ om om h2
 | after d h ar e l ha hh he hl=>
   intro p _;have h3:=hok.each ar (sN ha);have h2:=h3.2.2 _ (sN hh);have h5:=(aNr.1 hh).1;refine .app (.cons cost (uX fun x hx=>?_)) (.cons ?_ .nil)
   · rcases aNx.1 hx with rfl|hx
     ·exact he.all hq hc
     ·exact(hl x hx).all hq hc
   · show Q ⟨31,0,cc.ah (nm 104 h),(((e::l).length:Nat):Int)-1⟩
     rw[hc.ah ar h _ ha hh,show(((e::l).length:Nat):Int)-1=((l.length:Nat):Int)from by rw[ag];omega];exact hq.after h _ om h2
 | store d a b l ha hb hl ihl=>
   intro p;obtain⟨r,hr⟩:∃r,p+(hdC cc [a,b]).length+1=r:=⟨_,rfl⟩
   have e0:cS cc ⟨8,nE,nE,[a,b],[],l⟩ p=hdC cc [a,b]++⟨32,0,((r+(if l.isEmpty then 0 else 1):Nat):Int),0⟩::ovr r (cB cc l (r+1)) l.isEmpty:=by rw[←hr];rfl
   rw[e0,aj,ag];intro hn;have hov:l.isEmpty=false→(ovr r (cB cc l (r+1)) l.isEmpty).length=(cB cc l (r+1)).length+1:=fun hb=>by rw[hb];rfl
   refine .app (.cons cost (.app (ha.all hq hc) (.app (hb.all hq hc) .nil))) (.cons (hj.store _ ?_) ?_)
   · cases hb:l.isEmpty with
     |true=>rw[aOn rfl];omega
     |false=>rw[aNy Bool.false_ne_true];have:=hov hb;omega
   · cases hb:l.isEmpty with
     |true=>exact .nil
     | false=>
       have:=hov hb;exact uY (fun _=>hj.jump 27 _ om om) (aC l _ ihl om)
 | fetch d k e l hk h hl ihl=>
   intro p;obtain⟨r,hr⟩:∃r,p+(hdC cc [e]).length+1=r:=⟨_,rfl⟩
   have e0:cS cc ⟨9,nm 120 k,nE,[e],[],l⟩ p=hdC cc [e]++⟨33,cc.vs (nm 120 k),((r+(if l.isEmpty then 0 else 1):Nat):Int),0⟩::ovr r (cB cc l (r+1)) l.isEmpty:=by rw[←hr];rfl
   rw[e0,aj,ag];intro hn;have hov:l.isEmpty=false→(ovr r (cB cc l (r+1)) l.isEmpty).length=(cB cc l (r+1)).length+1:=fun hb=>by rw[hb];rfl
   refine .app (.cons cost (.app (h.all hq hc) .nil)) (.cons ?_ ?_)
   · rw[hc.vsx k hk]
     refine hj.fetch k _ om ?_;cases hb:l.isEmpty with
     |true=>rw[aOn rfl];omega
     |false=>rw[aNy Bool.false_ne_true];have:=hov hb;omega
   · cases hb:l.isEmpty with
     |true=>exact .nil
     | false=>
       have:=hov hb;exact uY (fun _=>hj.jump 27 _ om om) (aC l _ ihl om)
 |stop d=>intro p _;exact .cons cost (.cons (hq.plain 34 om) .nil)
theorem NB{c:Ct}(hok:c.Ok){np n:Nat}(hnp:np≤4):Each c np (fun x=>Nl (np:Int) n x=true)∧aDn n c.ints (fun x=>Nl (np:Int) n x=true):=by
 have hi:=hok.ints;have hf:=hok.flags;refine⟨⟨fun k _ _=>?_,fun op ho=>?_,fun k hk=>?_,fun k hk=>?_,fun k hk=>?_,fun k hk=>?_,fun op _ ho=>?_,fun to h k h1 h2 h3=>?_,fun h k h1 h2=>?_⟩,⟨fun op t ho ht=>?_,fun t ht=>?_,fun k t hk ht=>?_⟩⟩
 ·simp[Nl,uA,uB,uN,jR]
 ·rcases(by omega:op=5∨op=9∨op=10∨op=11∨op=12∨op=13∨op=14∨op=15∨op=16∨op=17∨op=18∨op=19∨op=20∨op=21∨op=22∨op=23∨op=29∨op=34)with rfl|rfl|rfl|rfl|rfl|rfl|rfl|rfl|rfl|rfl|rfl|rfl|rfl|rfl|rfl|rfl|rfl|rfl<;>simp[Nl,uA,uB,uN,jR]
 ·simp[Nl,uA,uB,uN,jR];omega
 ·simp[Nl,uA,uB,uN,jR];omega
 ·simp[Nl,uA,uB,uN,jR];omega
 ·simp[Nl,uA,uB,uN,jR];omega
 ·rcases(by omega:op=6∨op=7∨op=8∨op=25∨op=26)with rfl|rfl|rfl|rfl|rfl<;>simp[Nl,uA,uB,uN,jR]
 ·simp[Nl,uA,uB,uN,jR];omega
 ·simp[Nl,uA,uB,uN,jR];omega
 ·rcases ho with rfl|rfl<;>simp[Nl,uA,uB,uN,jR]<;>omega
 ·simp[Nl,uA,uB,uN,jR];omega
 ·simp[Nl,uA,uB,uN,jR];omega
theorem Qh{l m:List Nat}(hl:∀x∈l,x<256)(hm:∀x∈m,x<256)(h:fT l=fT m):l=m:=by
 have h1:(l.map UInt8.ofNat).toArray=(m.map UInt8.ofNat).toArray:=aOa ByteArray.data h;have h2:l.map UInt8.ofNat=m.map UInt8.ofNat:=by simpa using h1
 have e:∀l:List Nat,(∀x∈l,x<256)→(l.map UInt8.ofNat).map UInt8.toNat=l:=fun l hl=>by
  rw[aQe];exact(List.map_congr_left fun x hx=>by
   show(UInt8.ofNat x).toNat=id x;rw[UInt8.toNat_ofNat'];exact Nat.mod_eq_of_lt (hl x hx)).trans (List.map_id l)
 rw[←e l hl,h2,e m hm]
theorem Pq{c d k j:Nat}(hc:c<256)(hd:d<256)(hk:k<200)(hj:j<200)(h:nm c k=nm d j):c=d∧k=j:=by
 have:=Qh (l:=[c,48+k]) (m:=[d,48+j]) (by intro x hx;simp only[aNx,aOe,aPh]at hx;omega) (by intro x hx;simp only[aNx,aOe,aPh]at hx;omega) h;simp only[aQa,and_true]at this;omega
theorem mY{i j:Nat}(hi:i<100)(hj:j<100)(h:nC i=nC j):i=j:=by
 have:=Qh (l:=[97+i]) (m:=[97+j]) (by intro x hx;simp only[aNx,aOe,aPh]at hx;omega) (by intro x hx;simp only[aNx,aOe,aPh]at hx;omega) h;simp only[aQa,and_true]at this;omega
theorem fG:nB0=nm 98 0:=rfl
def bi(s:yB):Nat→List yB→oP Nat
 |_,[]=>none
 |k,x::r=>if x=s then some k else bi s (k+1) r
theorem Kt{s:yB}:∀{l:List yB} {k:Nat},s∉l→bi s k l=none
 |[],_,_=>rfl
 | x::r,k,h=>by
   rw[bi,aNy fun e=>h (by rw[e];exact aNu ..)];exact Kt fun hx=>h (aNs _ hx)
theorem aD{s:yB}:∀{l:List yB} {k j:Nat},l[j]?=some s→(∀i,i<j→l[i]?≠some s)→bi s k l=some (k+j)
 |[],_,_,h,_=>by simp at h
 |x::r,k,0,h,_=>by rw[bi,aOn (by simpa using h)];rfl
 | x::r,k,j+1,h,hn=>by
   have h0:=hn 0 om;rw[bi,aNy (by intro e;exact h0 (by rw[e];rfl)),aD (l:=r) (k:=k+1) (j:=j) (by simpa using h) (fun i hi=>by have:=hn (i+1) om;simpa using this)];congr 1;omega
theorem Ti{c n k:Nat}(hc:c<256)(hn:n<200)(hk:k<n)(m:Nat):bi (nm c k) m (nms c n)=some (m+k):=by
 refine aD (Dw hk) fun i hi h=>?_;rw[Dw om]at h;have:=(Pq hc hc om om (aOj h)).2;omega
theorem Rb{c d n k:Nat}(hc:c<256)(hd:d<256)(hn:n<200)(hk:k<200)(h:c≠d):nm d k∉nms c n:=fun hm=>by
 unfold nms at hm;obtain⟨i,hi,he⟩:=aOm.1 hm;have:=(Pq hc hd (by have:=List.mem_range.1 hi;omega) hk he).1;exact h this
def slF(s:yB)(tab:Bool):Nat→List Vr→oP Nat
 |_,[]=>none
 |k,v::r=>if decide (v.ty=3)≠tab then slF s tab k r else if v.name=s then some k else slF s tab (k+1) r
def oI(o:oP Nat):Int:=match o with|some k=>(k:Int)|none=>-1
def slI(vars:List Vr)(s:yB)(tab:Bool):Int:=oI (slF s tab 0 vars)
instance aFy(s:yB):(l:List yB)→Decidable (s∈l)
 |[]=> .isFalse (fun h=>by cases h)
 | x::r=>if h:s=x then .isTrue (by rw[h];exact aNu ..)else match aFy s r with
   | .isTrue k=> .isTrue (aNs _ k)
   | .isFalse k=> .isFalse fun m=>(aNx.1 m).elim h k
def cO(o:List yB)(l:List PH):List yB:=l.foldl (fun(o:List yB) (h:PH)=>if h.name∈o then o else o++[h.name]) o
def av(v:List (List PH)):List yB:=v.foldl cO []
def tgF(cn hn:yB):Nat→List PC→Int×Int
 |_,[]=>(-1,-1)
 |i,c::r=>if c.name=cn then(match bi hn 0 (av c.vers)with|some h=>((i:Int),(h:Int))|none=>tgF cn hn (i+1) r)else tgF cn hn (i+1) r
def ccR(f:PF)(own:yB)(vars:List Vr)(ps:List yB):Cc where
 pn s:=match bi s 0 ps with|some k=>⟨3,(k:Int),0,0⟩|none=>match bi s 0 (f.flags.map Fg.name)with|some k=>⟨4,(k:Int),0,0⟩|none=>⟨2,slI vars s false,0,0⟩
 vs s:=slI vars s false
 ts s:=slI vars s true
 tg c h:=tgF c h 0 f.comps
 ah h:=(tgF own h 0 f.comps).2
def Ny(vars:List Vr)(tab:Bool):List yB:=(vars.filter fun v=>decide (v.ty=3)==tab).map Vr.name
def ccP(f:PF)(own:Nat)(vars:List Vr)(ps:List yB):Cc where
 pn s:=match bi s 0 ps with|some k=>⟨3,(k:Int),0,0⟩|none=>match bi s 0 (Ny vars false)with|some k=>⟨2,(k:Int),0,0⟩|none=>⟨4,oI (bi s 0 (f.flags.map Fg.name)),0,0⟩
 vs s:=oI (bi s 0 (Ny vars false))
 ts s:=oI (bi s 0 (Ny vars true))
 tg c h:=(oI (bi c 0 (f.comps.map PC.name)),oI (bi h 0 (((f.comps.map fun c=>av c.vers)[(oI (bi c 0 (f.comps.map PC.name))).toNat]?).getD [])))
 ah h:=oI (bi h 0 (((f.comps.map fun c=>av c.vers)[own]?).getD []))
theorem EG(s:yB)(tab:Bool):∀(vars:List Vr) (k:Nat),slF s tab k vars=bi s k (Ny vars tab)
 |[],k=>rfl
 | v ::r,k=>by
   rw[slF];unfold Ny;by_cases h:decide (v.ty=3)=tab
   · rw[aNy (fun e=>e h),List.filter_cons_of_pos (by rw[h];exact beq_self_eq_true _),aOw,bi,EG s tab r (k+1)]
     rfl
   · rw[aOn h,List.filter_cons_of_neg (by simpa using h),EG s tab r k]
     rfl
theorem Xp(ints tables:Nat):Ny (varsOf ints tables) false=nms 120 ints++[nB0]:=by
 unfold Ny varsOf nms;rw[List.filter_append,List.filter_append,aOb,aOb];have h1:((List.range ints).map (fun k=>(⟨nm 120 k,1,(k:Int)⟩:Vr))).filter (fun v=>decide (v.ty=3)==false)=(List.range ints).map (fun k=>(⟨nm 120 k,1,(k:Int)⟩:Vr)):=List.filter_eq_self.2 fun v hv=>by
  obtain⟨k,_,rfl⟩:=aOm.1 hv;rfl
 have h2:((List.range tables).map (fun _=>(⟨nT0,3,0⟩:Vr))).filter (fun v=>decide (v.ty=3)==false)=[]:=List.filter_eq_nil_iff.2 fun v hv=>by
  obtain⟨k,_,rfl⟩:=aOm.1 hv;exact Bool.false_ne_true
 rw[h1,h2,aQe,aPq,aOo];rfl
theorem yJ(ints tables:Nat):Ny (varsOf ints tables) true=List.replicate tables nT0:=by
 unfold Ny varsOf;rw[List.filter_append,List.filter_append,aOb,aOb];have h1:((List.range ints).map (fun k=>(⟨nm 120 k,1,(k:Int)⟩:Vr))).filter (fun v=>decide (v.ty=3)==true)=[]:=List.filter_eq_nil_iff.2 fun v hv=>by
  obtain⟨k,_,rfl⟩:=aOm.1 hv;exact Bool.false_ne_true
 have h2:((List.range tables).map (fun _=>(⟨nT0,3,0⟩:Vr))).filter (fun v=>decide (v.ty=3)==true)=(List.range tables).map (fun _=>(⟨nT0,3,0⟩:Vr)):=List.filter_eq_self.2 fun v hv=>by
  obtain⟨k,_,rfl⟩:=aOm.1 hv;rfl
 rw[h1,h2,aQe];show[]++[]++(List.range tables).map (fun _=>nT0)=_;rw[aOo,aQj,List.map_const',List.length_range]
theorem fH{a:Nat}:∀(l:List PH) (k:Nat),k≤a→a+l.length<100→(∀j h,l[j]?=some h→h.name=nm 104 (k+j))→cO (nms 104 a) l=nms 104 (max a (k+l.length))
 | [],k,hk,_,_=>by
   rw[bg,aQv,Nat.max_eq_left hk];rfl
 | h ::r,k,hk,hn,hl=>by
   have h0:h.name=nm 104 k:=hl 0 h rfl;rw[ag]at hn;have hr:∀j x,r[j]?=some x→x.name=nm 104 (k+1+j):=fun j x hx=>by
    rw[show k+1+j=k+(j+1) by omega];exact hl (j+1) x (by simpa using hx)
   show cO (if h.name∈nms 104 a then nms 104 a else nms 104 a++[h.name]) r=_;by_cases hlt:k<a
   ·rw[aOn (by rw[h0];exact sN (Dw hlt)),fH r (k+1) hlt om hr,ag,show k+1+r.length=k+(r.length+1) by omega]
   · have hka:k=a:=om
     subst hka;rw[aNy (by
      rw[h0];intro hm;unfold nms at hm;obtain⟨i,hi,he⟩:=aOm.1 hm;have h1:=List.mem_range.1 hi;have:=(Pq de de om om he).2;omega),h0,←mI,fH r (k+1) (aOd _) om hr,ag]
     congr 1;omega
theorem qV.names{c:Ct}{ar:List Nat}{l:List PH}(h:qV c ar l):∀j x,l[j]?=some x→x.name=nm 104 (0+j):=fun j x hx=>by rw[aOz];exact(h.2.2 j x hx).name
theorem gX{c:Ct}{ar:List Nat}(har:ar.length≤3):∀(v:List (List PH)) (a:Nat),a≤ar.length→(∀x∈v,qV c ar x)→∃b,v.foldl cO (nms 104 a)=nms 104 b∧a≤b∧b≤ar.length∧∀x∈v,x.length≤b
 |[],a,ha,_=>⟨a,rfl,aOd _,ha,fun x h=>by cases h⟩
 | x ::r,a,ha,h=>by
   have hx:=h x (aNu ..);have hl:=hx.2.1;obtain⟨b,e,h1,h2,h3⟩:=gX har r (max a (0+x.length)) om fun y hy=>h y (aNs _ hy);refine⟨b,?_,by omega,h2,fun y hy=>?_⟩
   ·rw[aQw,fH x 0 om om hx.names];exact e
   · rcases aNx.1 hy with rfl|hy
     ·omega
     ·exact h3 y hy
theorem Vw.hnames{flags:Nat}{ars:List (List Nat)}{i:Nat}{c:PC}(ho:yE ars)(h:Vw flags ars i c):∃ar,ars[i]?=some ar∧av c.vers=nms 104 ar.length:=by
 obtain⟨ints,tables,ar,_,_,ha,_,hv,_,x,hx,hl⟩:=h.vers;obtain⟨b,e,_,h2,h3⟩:=gX (ho.2 ar (sN ha)).2.1 c.vers 0 om hv;refine⟨ar,ha,?_⟩;have:=h3 x hx;rw[show ar.length=b by omega];exact e
theorem yK{f:PF}(h:Nn f){i:Nat}(hi:i<f.comps.length):bi (nC i) 0 (f.comps.map PC.name)=some i:=by
 obtain⟨ars,ho,hl,hc⟩:=h.comps;have hs:=ho.1.2;have nmc:∀j,j<f.comps.length→(f.comps.map PC.name)[j]?=some (nC j):=fun j hj=>by
  rw[aOf,gge hj];exact aOa some (hc j _ (gge hj)).name
 rw[aD (j:=i) (nmc i hi) fun j hj he=>?_,aOz];rw[nmc j om]at he;have:=mY om om (aOj he);omega
theorem mZ{ars:List (List Nat)}{flags:Nat}(ho:yE ars){to h n:Nat}{ar:List Nat}(ht:ars[to]?=some ar)(hh:ar[h]?=some n):∀(l:List PC) (k:Nat),k≤to→to<k+l.length→k+l.length≤3→(∀j c,l[j]?=some c→Vw flags ars (k+j) c)→tgF (nC to) (nm 104 h) k l=((to:Int),(h:Int))
 |[],k,h1,h2,_,_=>by rw[bg]at h2;omega
 | c ::r,k,h1,h2,h3,hg=>by
   rw[ag]at h2 h3;have h0:=hg 0 c rfl;rw[aQv]at h0;rw[tgF,h0.name];by_cases e:k=to
   · subst e
     obtain⟨ar',ha',hn⟩:=h0.hnames ho;have:ar'=ar:=by rw[ht]at ha';exact(aOj ha').symm
     subst this;have hlt:=(aNr.1 hh).1;have h33:=(ho.2 ar' (sN ht)).2.1;rw[aOn rfl,hn,Ti de om hlt 0,aOz]
   · rw[aNy (fun x=>e (mY om om x))]
     exact mZ ho ht hh r (k+1) om om om fun j c hj=>by
      rw[show k+1+j=k+(j+1) by omega];exact hg (j+1) c (by simpa using hj)
structure OkC(f:PF)(i:Nat)(c:PC)(ct:Ct)(ar:List Nat):Prop where
 ok:ct.Ok
 own:ct.own=i
 arr:ct.ars[i]?=some ar
 flags:f.flags.map Fg.name=nms 102 ct.flags
 vars:c.vars=varsOf ct.ints ct.tables
 name:c.name=nC i
 vers:∀v∈c.vers,qV ct ar v
 hn:av c.vers=nms 104 ar.length
 tg:∀(to:Nat) (a:List Nat) (h n:Nat),ct.ars[to]?=some a→a[h]?=some n→tgF (nC to) (nm 104 h) 0 f.comps=((to:Int),(h:Int))
 cix:∀to:Nat,to<ct.ars.length→bi (nC to) 0 (f.comps.map PC.name)=some to
 hall:∀(to:Nat) (a:List Nat),ct.ars[to]?=some a→(f.comps.map fun c=>av c.vers)[to]?=some (nms 104 a.length)
theorem Nn.okC{f:PF}(h:Nn f){i:Nat}{c:PC}(hc:f.comps[i]?=some c):∃ct ar,OkC f i c ct ar:=by
 obtain⟨ars,ho,hl,hg⟩:=h.comps;have g:=hg i c hc;obtain⟨ints,tables,ar,hi,ht,ha,hv,hvs,hvn,hx⟩:=g.vers;obtain⟨ar',ha',hn⟩:=g.hnames ho;have:ar'=ar:=by rw[ha]at ha';exact(aOj ha').symm
 subst this;refine⟨⟨ints,tables,f.flags.length,i,ars⟩,ar',⟨⟨hi,ht,h.flags.1,(aNr.1 ha).1,ho.1.2,ho.2⟩,rfl,ha,h.flags.2,hv,g.name,hvs,hn,fun to a x n h1 h2=>?_,fun to hto=>?_,fun to a h1=>?_⟩⟩
 · have h7:to<ars.length:=(aNr.1 h1).1
   have h8:=ho.1.2;exact mZ ho h1 h2 f.comps 0 om om om fun j c hj=>by rw[aOz];exact hg j c hj
 · have hto:to<ars.length:=hto
   exact yK h om
 · have hlt:to<f.comps.length:=by rw[hl];exact(aNr.1 h1).1
   obtain⟨a2,hb,hn2⟩:=(hg to _ (gge hlt)).hnames ho;rw[aOf,gge hlt];rw[h1]at hb;rw[aOj hb];exact aOa some hn2
theorem OkC.isR{f:PF}{i:Nat}{c:PC}{ct:Ct}{ar:List Nat}(h:OkC f i c ct ar){np:Nat}(hnp:np≤2):(ccR f c.name c.vars (nms 112 np)).Is ct np:=by
 have hi:=h.ok.ints;have hf:=h.ok.flags;have ht:=h.ok.tables;have sl:∀s tab,slI c.vars s tab=oI (bi s 0 (Ny (varsOf ct.ints ct.tables) tab)):=fun s tab=>by unfold slI;rw[h.vars,EG]
 have slx:∀k,k<ct.ints→slI c.vars (nm 120 k) false=(k:Int):=fun k hk=>by
  rw[sl,Xp,aD (j:=k) (by rw[aOu (by rw[Dq];exact hk)];exact Dw hk) fun j hj he=>by
   rw[aOu (by rw[Dq];omega),Dw om]at he;have:=(Pq de de om om (aOj he)).2;omega,aOz]
  rfl
 have slb:slI c.vars nB0 false=(ct.ints:Int):=by
  rw[sl,Xp,aD (j:=ct.ints) (by rw[aPj (by rw[Dq];exact aOd _),Dq,aQf];rfl) fun j hj he=>by
   rw[aOu (by rw[Dq];omega),Dw om]at he;have:=(Pq de de om om ((aOj he).trans fG)).1;omega,aOz]
  rfl
 refine⟨fun k hk=>?_,?_,fun k hk=>?_,fun k hk=>?_,slx,slb,fun h0=>?_,fun to a x n h1 h2=>h.tg to a x n h1 h2,fun a x n h1 h2=>?_⟩
 · show(match bi _ 0 (nms 112 np)with|some k=>(⟨3,(k:Int),0,0⟩:Ins)|none=>match bi _ 0 (f.flags.map Fg.name)with|some k=>⟨4,(k:Int),0,0⟩|none=>⟨2,slI c.vars _ false,0,0⟩)=_
   rw[Kt (Rb de de om om de),h.flags,Kt (Rb de de om om de)];simp only[slx k hk]
 · show(match bi _ 0 (nms 112 np)with|some k=>(⟨3,(k:Int),0,0⟩:Ins)|none=>match bi _ 0 (f.flags.map Fg.name)with|some k=>⟨4,(k:Int),0,0⟩|none=>⟨2,slI c.vars _ false,0,0⟩)=_
   rw[Kt (by rw[fG];exact Rb de de om om de),h.flags,Kt (by rw[fG];exact Rb de de om om de)];simp only[slb]
 · show(match bi _ 0 (nms 112 np)with|some k=>(⟨3,(k:Int),0,0⟩:Ins)|none=>match bi _ 0 (f.flags.map Fg.name)with|some k=>⟨4,(k:Int),0,0⟩|none=>⟨2,slI c.vars _ false,0,0⟩)=_
   rw[Ti de om hk 0,aOz]
 · show(match bi _ 0 (nms 112 np)with|some k=>(⟨3,(k:Int),0,0⟩:Ins)|none=>match bi _ 0 (f.flags.map Fg.name)with|some k=>⟨4,(k:Int),0,0⟩|none=>⟨2,slI c.vars _ false,0,0⟩)=_
   rw[Kt (Rb de de om om de),h.flags,Ti de om hk 0,aOz]
 · show slI c.vars nT0 true=0
   rw[sl,yJ,show ct.tables=1 by omega];rfl
 · show(tgF c.name (nm 104 x) 0 f.comps).2=(x:Int)
   rw[h.name,h.tg i a x n (by rw[←h.own];exact h1) h2]
theorem OkC.isP{f:PF}{i:Nat}{c:PC}{ct:Ct}{ar:List Nat}(h:OkC f i c ct ar){np:Nat}(hnp:np≤2):(ccP f i c.vars (nms 112 np)).Is ct np:=by
 have hi:=h.ok.ints;have hf:=h.ok.flags;have ht:=h.ok.tables;have vx:∀k,k<ct.ints→bi (nm 120 k) 0 (Ny c.vars false)=some k:=fun k hk=>by
  rw[h.vars,Xp,aD (j:=k) (by rw[aOu (by rw[Dq];exact hk)];exact Dw hk) fun j hj he=>by
   rw[aOu (by rw[Dq];omega),Dw om]at he;have:=(Pq de de om om (aOj he)).2;omega,aOz]
 have vb:bi nB0 0 (Ny c.vars false)=some ct.ints:=by
  rw[h.vars,Xp,aD (j:=ct.ints) (by rw[aPj (by rw[Dq];exact aOd _),Dq,aQf];rfl) fun j hj he=>by
   rw[aOu (by rw[Dq];omega),Dw om]at he;have:=(Pq de de om om ((aOj he).trans fG)).1;omega,aOz]
 have vf:∀k,k<ct.flags→bi (nm 102 k) 0 (Ny c.vars false)=none:=fun k hk=>by
  rw[h.vars,Xp];refine Kt fun hm=>?_;rcases aPi.1 hm with hm|hm
  ·exact Rb de de om om de hm
  · have:=(Pq de de om om ((aNz.1 hm).trans fG)).1
    omega
 have np0:∀d k,d<256→k<200→112≠d→bi (nm d k) 0 (nms 112 np)=none:=fun d k hd hk hne=>Kt (Rb de hd om hk hne);refine⟨fun k hk=>?_,?_,fun k hk=>?_,fun k hk=>?_,fun k hk=>?_,?_,fun h0=>?_,fun to a x n h1 h2=>?_,fun a x n h1 h2=>?_⟩
 · show(match bi _ 0 (nms 112 np)with|some k=>(⟨3,(k:Int),0,0⟩:Ins)|none=>match bi _ 0 (Ny c.vars false)with|some k=>⟨2,(k:Int),0,0⟩|none=>⟨4,_,0,0⟩)=_
   rw[np0 120 k de om de,vx k hk]
 · show(match bi _ 0 (nms 112 np)with|some k=>(⟨3,(k:Int),0,0⟩:Ins)|none=>match bi _ 0 (Ny c.vars false)with|some k=>⟨2,(k:Int),0,0⟩|none=>⟨4,_,0,0⟩)=_
   rw[vb,fG,np0 98 0 de om de]
 · show(match bi _ 0 (nms 112 np)with|some k=>(⟨3,(k:Int),0,0⟩:Ins)|none=>match bi _ 0 (Ny c.vars false)with|some k=>⟨2,(k:Int),0,0⟩|none=>⟨4,_,0,0⟩)=_
   rw[Ti de om hk 0,aOz]
 · show(match bi _ 0 (nms 112 np)with|some k=>(⟨3,(k:Int),0,0⟩:Ins)|none=>match bi _ 0 (Ny c.vars false)with|some k=>⟨2,(k:Int),0,0⟩|none=>⟨4,oI (bi _ 0 (f.flags.map Fg.name)),0,0⟩)=_
   rw[np0 102 k de om de,vf k hk,h.flags,Ti de om hk 0,aOz];rfl
 ·show oI (bi _ 0 (Ny c.vars false))=_;rw[vx k hk];rfl
 ·show oI (bi _ 0 (Ny c.vars false))=_;rw[vb];rfl
 · show oI (bi nT0 0 (Ny c.vars true))=0
   rw[h.vars,yJ,show ct.tables=1 by omega];rfl
 · have hlt:=(aNr.1 h1).1
   have hxl:=(aNr.1 h2).1;have h33:=(h.ok.each a (sN h1)).2.1;show(oI (bi (nC to) 0 (f.comps.map PC.name)),oI (bi (nm 104 x) 0 (((f.comps.map fun c=>av c.vers)[(oI (bi (nC to) 0 (f.comps.map PC.name))).toNat]?).getD [])))=_;rw[h.cix to hlt];show((to:Int),oI (bi (nm 104 x) 0 (((f.comps.map fun c=>av c.vers)[to]?).getD [])))=_;rw[h.hall to a h1];show((to:Int),oI (bi (nm 104 x) 0 (nms 104 a.length)))=_;rw[Ti de om hxl 0,aOz];rfl
 · have hxl:=(aNr.1 h2).1
   have h33:=(h.ok.each a (sN h1)).2.1;show oI (bi (nm 104 x) 0 (((f.comps.map fun c=>av c.vers)[i]?).getD []))=_;rw[h.own]at h1;rw[h.hall i a h1];show oI (bi (nm 104 x) 0 (nms 104 a.length))=_;rw[Ti de om hxl 0,aOz];rfl
end Go.Proofs.YtihgdnjkofpgiaaGreatDoor

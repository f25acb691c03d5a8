/- Own text. -/
import Derived.Test.YtihgdnjkofpgiaaGreatDoorHa
set_option linter.unusedVariables false
namespace Go.Proofs.YtihgdnjkofpgiaaGreatDoor
open Go.RowKit Go.Flow Go.Mem Go.Sep Go.In
section
variable{cc cd:Cc}{c:Ct}{np:Nat}
theorem Kq.same(h1:cc.Is c np)(h2:cd.Is c np){d:Nat}{e:PE}(h:Kq c np d e):cE cc e=cE cd e:=by
 induction h with
 |num d n h=>rfl
 |var d k h=>show[cc.pn _]=[cd.pn _];rw[h1.ldx k h,h2.ldx k h]
 |par d k h=>show[cc.pn _]=[cd.pn _];rw[h1.ldp k h,h2.ldp k h]
 |now d=>rfl
 |get d e ht h ih=>show(cE cc e++[])++[⟨6,cc.ts nT0,0,0⟩]=(cE cd e++[])++[⟨6,cd.ts nT0,0,0⟩];rw[ih,h1.ts ht,h2.ts ht]
 |size d ht=>show[(⟨8,cc.ts nT0,0,0⟩:Ins)]=[⟨8,cd.ts nT0,0,0⟩];rw[h1.ts ht,h2.ts ht]
 |neg d e h ih=>show(cE cc e++[])++_=(cE cd e++[])++_;rw[ih];rfl
 | bin d op a b ho ha hb iha ihb=>
   show(cE cc a++(cE cc b++[]))++[opI cc op nE 0]=(cE cd a++(cE cd b++[]))++[opI cd op nE 0];rw[iha,ihb];unfold opI;rw[aNy om,aNy om,aNy om,aNy om,aNy om,aNy om,aNy om,aNy om,aNy om,aNy om,aNy om,aNy om]
theorem Ow.same(h1:cc.Is c np)(h2:cd.Is c np){d:Nat}{e:PE}(h:Ow c np d e):cE cc e=cE cd e:=by
 induction h with
 |tf d op h=>rcases h with rfl|rfl<;>rfl
 |b0 d=>show[cc.pn _]=[cd.pn _];rw[h1.ldb,h2.ldb]
 |flag d k h=>show[cc.pn _]=[cd.pn _];rw[h1.ldf k h,h2.ldf k h]
 |has d e ht h=>show(cE cc e++[])++[⟨7,cc.ts nT0,0,0⟩]=(cE cd e++[])++[⟨7,cd.ts nT0,0,0⟩];rw[h.same h1 h2,h1.ts ht,h2.ts ht]
 |not d e h ih=>show(cE cc e++[])++_=(cE cd e++[])++_;rw[ih];rfl
 | two d op a b ho ha hb iha ihb=>
   show(cE cc a++(cE cc b++[]))++[opI cc op nE 0]=(cE cd a++(cE cd b++[]))++[opI cd op nE 0];rw[iha,ihb];unfold opI;rw[aNy om,aNy om,aNy om,aNy om,aNy om,aNy om,aNy om,aNy om,aNy om,aNy om,aNy om,aNy om]
 | cmp d op a b ho ha hb=>
   show(cE cc a++(cE cc b++[]))++[opI cc op nE 0]=(cE cd a++(cE cd b++[]))++[opI cd op nE 0];rw[ha.same h1 h2,hb.same h1 h2];unfold opI;rw[aNy om,aNy om,aNy om,aNy om,aNy om,aNy om,aNy om,aNy om,aNy om,aNy om,aNy om,aNy om]
theorem Nr{l:List PE}(h:∀e∈l,cE cc e=cE cd e):cEs cc l=cEs cd l:=by
 induction l with
 |nil=>rfl
 |cons e r ih=>show cE cc e++cEs cc r=cE cd e++cEs cd r;rw[h e (aNu ..),ih fun x hx=>h x (aNs _ hx)]
theorem Vm:∀(l:List PS) (p:Nat),(∀s∈l,∀p,cS cc s p=cS cd s p)→cB cc l p=cB cd l p
 |[],_,_=>rfl
 | s::r,p,h=>by
   show cS cc s p++cB cc r _=cS cd s p++cB cd r _;rw[h s (aNu ..) p,Vm r _ fun x hx=>h x (aNs _ hx)]
theorem Pz{l:List PE}(h:cEs cc l=cEs cd l):hdC cc l=hdC cd l:=by unfold hdC;rw[h]
theorem StE.same(h1:cc.Is c np)(h2:cd.Is c np){d:Nat}{s:PS}(h:StE c np d s):∀p,cS cc s p=cS cd s p:=by
 induction h with
 |setB d e h=>intro p;show hdC cc [e]++[⟨24,cc.vs nB0,0,0⟩]=hdC cd [e]++[⟨24,cd.vs nB0,0,0⟩];rw[Pz (Nr (iO (h.same h1 h2))),h1.vsb,h2.vsb]
 |setX d k e hk h=>intro p;show hdC cc [e]++[⟨24,cc.vs (nm 120 k),0,0⟩]=hdC cd [e]++[⟨24,cd.vs (nm 120 k),0,0⟩];rw[Pz (Nr (iO (h.same h1 h2))),h1.vsx k hk,h2.vsx k hk]
 |put d a b ht ha hb=>intro p;show hdC cc [a,b]++[⟨25,cc.ts nT0,0,0⟩]=hdC cd [a,b]++[⟨25,cd.ts nT0,0,0⟩];rw[Pz (Nr (aAn (ha.same h1 h2) (hb.same h1 h2))),h1.ts ht,h2.ts ht]
 |del d a ht ha=>intro p;show hdC cc [a]++[⟨26,cc.ts nT0,0,0⟩]=hdC cd [a]++[⟨26,cd.ts nT0,0,0⟩];rw[Pz (Nr (iO (ha.same h1 h2))),h1.ts ht,h2.ts ht]
 | ife d e t l h ht hl iht ihl=>
   intro p;have e1:hdC cc [e]=hdC cd [e]:=Pz (Nr (iO (h.same h1 h2)));obtain⟨r,hr⟩:∃r,p+(hdC cd [e]).length+1=r:=⟨_,rfl⟩
   show hdC cc [e]++⟨28,((p+(hdC cc [e]).length+1+(cB cc t (p+(hdC cc [e]).length+1)).length+(if l.isEmpty then 0 else 1):Nat):Int),0,0⟩::(cB cc t (p+(hdC cc [e]).length+1)++ovr (p+(hdC cc [e]).length+1+(cB cc t (p+(hdC cc [e]).length+1)).length) (cB cc l (p+(hdC cc [e]).length+1+(cB cc t (p+(hdC cc [e]).length+1)).length+1)) l.isEmpty)=hdC cd [e]++⟨28,((p+(hdC cd [e]).length+1+(cB cd t (p+(hdC cd [e]).length+1)).length+(if l.isEmpty then 0 else 1):Nat):Int),0,0⟩::(cB cd t (p+(hdC cd [e]).length+1)++ovr (p+(hdC cd [e]).length+1+(cB cd t (p+(hdC cd [e]).length+1)).length) (cB cd l (p+(hdC cd [e]).length+1+(cB cd t (p+(hdC cd [e]).length+1)).length+1)) l.isEmpty);rw[e1,hr,Vm t r iht,Vm l _ ihl]
 | whl d e t h ht iht=>
   intro p;have e1:hdC cc [e]=hdC cd [e]:=Pz (Nr (iO (h.same h1 h2)));show hdC cc [e]++⟨28,((p+(hdC cc [e]).length+1+(cB cc t (p+(hdC cc [e]).length+1)).length+1:Nat):Int),0,0⟩::(cB cc t (p+(hdC cc [e]).length+1)++[⟨27,((p:Nat):Int),0,0⟩])=hdC cd [e]++⟨28,((p+(hdC cd [e]).length+1+(cB cd t (p+(hdC cd [e]).length+1)).length+1:Nat):Int),0,0⟩::(cB cd t (p+(hdC cd [e]).length+1)++[⟨27,((p:Nat):Int),0,0⟩]);rw[e1,Vm t _ iht]
 | send d to h ar l ha hh hl=>
   intro p;show hdC cc l++[⟨30,(cc.tg (nC to) (nm 104 h)).1,(cc.tg (nC to) (nm 104 h)).2,((l.length:Nat):Int)⟩]=hdC cd l++[⟨30,(cd.tg (nC to) (nm 104 h)).1,(cd.tg (nC to) (nm 104 h)).2,((l.length:Nat):Int)⟩];rw[Pz (Nr fun x hx=>(hl x hx).same h1 h2),h1.tg to ar h _ ha hh,h2.tg to ar h _ ha hh]
 | after d h ar e l ha hh he hl=>
   intro p;show hdC cc (e::l)++[⟨31,0,cc.ah (nm 104 h),(((e::l).length:Nat):Int)-1⟩]=hdC cd (e::l)++[⟨31,0,cd.ah (nm 104 h),(((e::l).length:Nat):Int)-1⟩];rw[Pz (Nr fun x hx=>by
    rcases aNx.1 hx with rfl|hx
    ·exact he.same h1 h2
    ·exact(hl x hx).same h1 h2),h1.ah ar h _ ha hh,h2.ah ar h _ ha hh]
 | store d a b l ha hb hl ihl=>
   intro p;have e1:hdC cc [a,b]=hdC cd [a,b]:=Pz (Nr (aAn (ha.same h1 h2) (hb.same h1 h2)));show hdC cc [a,b]++⟨32,0,((p+(hdC cc [a,b]).length+1+(if l.isEmpty then 0 else 1):Nat):Int),0⟩::ovr (p+(hdC cc [a,b]).length+1) (cB cc l (p+(hdC cc [a,b]).length+1+1)) l.isEmpty=hdC cd [a,b]++⟨32,0,((p+(hdC cd [a,b]).length+1+(if l.isEmpty then 0 else 1):Nat):Int),0⟩::ovr (p+(hdC cd [a,b]).length+1) (cB cd l (p+(hdC cd [a,b]).length+1+1)) l.isEmpty;rw[e1,Vm l _ ihl]
 | fetch d k e l hk h hl ihl=>
   intro p;have e1:hdC cc [e]=hdC cd [e]:=Pz (Nr (iO (h.same h1 h2)));show hdC cc [e]++⟨33,cc.vs (nm 120 k),((p+(hdC cc [e]).length+1+(if l.isEmpty then 0 else 1):Nat):Int),0⟩::ovr (p+(hdC cc [e]).length+1) (cB cc l (p+(hdC cc [e]).length+1+1)) l.isEmpty=hdC cd [e]++⟨33,cd.vs (nm 120 k),((p+(hdC cd [e]).length+1+(if l.isEmpty then 0 else 1):Nat):Int),0⟩::ovr (p+(hdC cd [e]).length+1) (cB cd l (p+(hdC cd [e]).length+1+1)) l.isEmpty;rw[e1,Vm l _ ihl,h1.vsx k hk,h2.vsx k hk]
 |stop d=>intro p;rfl
end
end Go.Proofs.YtihgdnjkofpgiaaGreatDoor

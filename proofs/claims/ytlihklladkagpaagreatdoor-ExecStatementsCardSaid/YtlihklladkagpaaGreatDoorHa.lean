/- Own text. -/
import Derived.Test.YtlihklladkagpaaGreatDoorGb
set_option linter.unusedVariables false
set_option linter.unusedSimpArgs false
namespace Go.Proofs.YtlihklladkagpaaGreatDoor
open Go.RowKit Go.Flow Go.Mem Go.Sep Go.In
theorem Nu:∀(l m:List Ins) (i:Nat) (h:List Int) (top:Int),goH i (l++m) h top=(goH i l h top).bind fun p=>goH (i+l.length) m p.1 p.2
 |[],m,i,h,top=>rfl
 | x ::r,m,i,h,top=>by
   show((Mj h top i x).bind fun p=>goH (i+1) (r++m) p.1 p.2)=((Mj h top i x).bind fun p=>goH (i+1) r p.1 p.2).bind _
   cases Mj h top i x with
   |none=>rfl
   | some p=>
     show goH (i+1) (r++m) p.1 p.2=(goH (i+1) r p.1 p.2).bind _
     rw[Nu r m,show i+(x::r).length=i+1+r.length from by rw[lc1];omega]
theorem Xt{h:List Int}{i:Nat}{v:Int}(hi:i<h.length):(h.set i v).getD i 0=v:=by
 rw[aEx,List.getElem?_set_self hi];rfl
theorem Pv{h:List Int}{i j:Nat}{v:Int}(hi:i≠j):(h.set i v).getD j 0=h.getD j 0:=by
 rw[aEx,List.getElem?_set_ne hi,←aEx]
theorem step1{L:Nat}{h:List Int}{top m:Int}{i:Nat}{x:Ins}(hl:h.length=L+1)(hi:i<L)(ho:1≤x.op∧x.op≤34)(hj:(tgt x).isSome=false)(h27:x.op≠27∧x.op≠34)
    (hm:max (h.getD i 0) 0=m) (hp:mvP x≤m) (hn:okH (h.getD (i+1) 0) (m-mvP x+mvQ x)):
    ∃h',Mj h top i x=some (h',max (max top m) (m-mvP x+mvQ x))∧h'.length=L+1∧h'.getD i 0=m∧h'.getD (i+1) 0=m-mvP x+mvQ x∧∀j,j≠i→j≠i+1→h'.getD j 0=h.getD j 0:=by
 obtain⟨ep,eq⟩:=Zx ho.1 ho.2
 refine⟨(h.set i m).set (i+1) (m-mvP x+mvQ x),?_,by rw[aEj,aEj];exact hl,?_,?_,?_⟩
 · unfold Mj Vq Vt Mi
   simp only[hm,ep,eq]
   rw[aEa om,aEh om,Pv om,aEh hn]
   simp only[Option.bind_some]
   rw[aEa (by rw[hj];exact Bool.false_ne_true)]
   rfl
 ·rw[Pv om,Xt om]
 ·rw[Xt (by rw[aEj];omega)]
 · intro j h1 h2
   rw[Pv (fun e=>h2 e.symm),Pv (fun e=>h1 e.symm)]
theorem step2{L:Nat}{h:List Int}{top m:Int}{i t:Nat}{x:Ins}(hl:h.length=L+1)(hi:i<L)(ht:i<t∧t≤L)(ho:1≤x.op∧x.op≤34)(hj:tgt x=some ((t:Nat):Int))(h27:x.op≠27∧x.op≠34)
    (hm:max (h.getD i 0) 0=m) (hp:mvP x=m) (hq:mvQ x=0) (hn:h.getD (i+1) 0=-1∨h.getD (i+1) 0=0) (hk:h.getD t 0=-1∨h.getD t 0=0):
    ∃h',Mj h top i x=some (h',max (max top m) 0)∧h'.length=L+1∧h'.getD i 0=m∧h'.getD (i+1) 0=0∧h'.getD t 0=0∧∀j,j≠i→j≠i+1→j≠t→h'.getD j 0=h.getD j 0:=by
 obtain⟨ep,eq⟩:=Zx ho.1 ho.2
 refine⟨((h.set i m).set (i+1) 0).set t 0,?_,by rw[aEj,aEj,aEj];exact hl,?_,?_,?_,?_⟩
 · unfold Mj Vq Vt Mi
   simp only[hm,ep,eq,hp,hq,hj]
   rw[show m-m+0=0 from by omega,aEa om,aEh om,Pv om,aEh (by unfold okH;omega)]
   simp only[Option.bind_some,Option.isSome_some,if_true,Option.getD_some,Int.toNat_natCast]
   have:okH (((h.set i m).set (i+1) 0).getD t 0) 0:=by
    by_cases e:t=i+1
    ·subst e;rw[Xt (by rw[aEj];omega)];unfold okH;omega
    ·rw[Pv (fun h=>e h.symm),Pv om];unfold okH;omega
   rw[aEh this]
   rfl
 ·rw[Pv om,Pv om,Xt om]
 · by_cases e:t=i+1
   ·subst e;rw[Xt (by rw[aEj,aEj];omega)]
   ·rw[Pv e,Xt (by rw[aEj];omega)]
 ·rw[Xt (by rw[aEj,aEj];omega)]
 · intro j h1 h2 h3
   rw[Pv (fun e=>h3 e.symm),Pv (fun e=>h2 e.symm),Pv (fun e=>h1 e.symm)]
theorem VD{L:Nat}{h:List Int}{top:Int}{i t:Nat}(hl:h.length=L+1)(hi:i<L)(ht:t≠i∧t≤L)(hm:h.getD i 0=-1∨h.getD i 0=0)(hk:h.getD t 0=-1∨h.getD t 0=0):
    ∃h',Mj h top i ⟨27,((t:Nat):Int),0,0⟩=some (h',max (max top 0) 0)∧h'.length=L+1∧h'.getD i 0=0∧h'.getD t 0=0∧∀j,j≠i→j≠t→h'.getD j 0=h.getD j 0:=by
 obtain⟨ep,eq⟩:=Zx (x:=⟨27,((t:Nat):Int),0,0⟩) (show 1≤27 by decide) (show 27≤34 by decide)
 have hm0:max (h.getD i 0) 0=0:=om
 refine⟨(h.set i 0).set t 0,?_,by rw[aEj,aEj];exact hl,?_,?_,?_⟩
 · unfold Mj Vq Vt Mi
   simp only[hm0,ep,eq]
   rw[show mvP ⟨27,((t:Nat):Int),0,0⟩=0 from rfl,show mvQ ⟨27,((t:Nat):Int),0,0⟩=0 from rfl,show tgt ⟨27,((t:Nat):Int),0,0⟩=some ((t:Nat):Int)from rfl]
   rw[aEa om,aEa om]
   simp only[Option.bind_some,Option.isSome_some,if_true,Option.getD_some,Int.toNat_natCast]
   have:okH ((h.set i 0).getD t 0) (0-0+0):=by rw[Pv (fun e=>ht.1 e.symm)];unfold okH;omega
   rw[aEh this]
   rfl
 ·rw[Pv ht.1,Xt om]
 ·rw[Xt (by rw[aEj];omega)]
 · intro j h1 h2
   rw[Pv (fun e=>h2 e.symm),Pv (fun e=>h1 e.symm)]
theorem aBq{L:Nat}{h:List Int}{top:Int}{i:Nat}(hl:h.length=L+1)(hi:i<L)(hm:h.getD i 0=-1∨h.getD i 0=0):
    ∃h',Mj h top i ⟨34,0,0,0⟩=some (h',max (max top 0) 0)∧h'.length=L+1∧h'.getD i 0=0∧∀j,j≠i→h'.getD j 0=h.getD j 0:=by
 obtain⟨ep,eq⟩:=Zx (x:=⟨34,0,0,0⟩) (by decide) (by decide)
 have hm0:max (h.getD i 0) 0=0:=om
 refine⟨h.set i 0,?_,by rw[aEj];exact hl,Xt om,fun j h1=>Pv (fun e=>h1 e.symm)⟩
 unfold Mj Vq Vt Mi
 simp only[hm0,ep,eq]
 rw[show mvP ⟨34,0,0,0⟩=0 from rfl,show mvQ ⟨34,0,0,0⟩=0 from rfl,show tgt ⟨34,0,0,0⟩=none from rfl,aEa om,aEa om]
 rfl
inductive WfE:Nat→PE→Prop
 |leaf (d op:Nat) (s:ByteArray) (n:Int) (h:(1≤op∧op≤5)∨op=8):WfE d ⟨op,s,n,[]⟩
 |un (d op:Nat) (s:ByteArray) (n:Int) (a:PE) (h:op=6∨op=7∨op=9∨op=10) (ha:WfE d a):WfE (d+1) ⟨op,s,n,[a]⟩
 |bin (d op:Nat) (s:ByteArray) (n:Int) (a b:PE) (h:11≤op∧op≤23) (ha:WfE d a) (hb:WfE d b):WfE (d+1) ⟨op,s,n,[a,b]⟩
theorem WfE.up{d d':Nat}{e:PE}(h:WfE d e)(hd:d≤d'):WfE d' e:=by
 induction h generalizing d' with
 |leaf d op s n h=>exact .leaf _ _ _ _ h
 |un d op s n a h _ ih=>obtain⟨k,rfl⟩:∃k,d'=k+1:=⟨d'-1,by omega⟩;exact .un _ _ _ _ _ h (ih om)
 |bin d op s n a b h _ _ iha ihb=>obtain⟨k,rfl⟩:∃k,d'=k+1:=⟨d'-1,by omega⟩;exact .bin _ _ _ _ _ _ h (iha om) (ihb om)
theorem Kh.wf{c:Ct}{np d:Nat}{e:PE}(h:Kh c np d e):WfE d e:=by
 induction h with
 |num d n h=>exact .leaf _ _ _ _ om
 |var d k h=>exact .leaf _ _ _ _ om
 |par d k h=>exact .leaf _ _ _ _ om
 |now d=>exact .leaf _ _ _ _ om
 |get d e ht h ih=>exact .un _ _ _ _ _ om ih
 |size d ht=>exact .leaf _ _ _ _ om
 |neg d e h ih=>exact .un _ _ _ _ _ om ih
 |bin d op a b ho ha hb iha ihb=>exact .bin _ _ _ _ _ _ om iha ihb
theorem Pj.wf{c:Ct}{np d:Nat}{e:PE}(h:Pj c np d e):WfE (d+3) e:=by
 induction h with
 |tf d op h=>exact .leaf _ _ _ _ om
 |b0 d=>exact .leaf _ _ _ _ om
 |flag d k h=>exact .leaf _ _ _ _ om
 |has d e ht h=>exact .un _ _ _ _ _ om (h.wf.up om)
 |not d e h ih=>exact .un _ _ _ _ _ om ih
 |two d op a b ho ha hb iha ihb=>exact .bin _ _ _ _ _ _ om iha ihb
 |cmp d op a b ho ha hb=>exact .bin _ _ _ _ _ _ om (ha.wf.up om) (hb.wf.up om)
def Cc.Loads(c:Cc):Prop:=∀s,2≤(c.pn s).op∧(c.pn s).op≤4
theorem bQ{c:Cc}(hc:c.Loads){op:Nat}(s:ByteArray)(n:Int)(h:1≤op∧op≤23):
    (1≤(opI c op s n).op∧(opI c op s n).op≤23)∧mvP (opI c op s n)=(if op≤5∨op=8 then 0 else if op≤10 then 1 else 2)∧mvQ (opI c op s n)=1:=by
 have hs:=hc s
 unfold opI
 by_cases h1:op=1
 ·rw[aEh h1,aEh om];exact⟨⟨aEu 1,(show 1≤23 by decide)⟩,rfl,rfl⟩
 rw[aEa h1]
 by_cases h2:op=2
 ·rw[aEh h2,aEh om];exact⟨by decide,rfl,rfl⟩
 rw[aEa h2]
 by_cases h3:op=3
 ·rw[aEh h3,aEh om];exact⟨by decide,rfl,rfl⟩
 rw[aEa h3]
 by_cases h4:op=4
 ·rw[aEh h4,aEh om];exact⟨by decide,rfl,rfl⟩
 rw[aEa h4]
 by_cases h5:op=5
 ·rw[aEh h5,aEh om];unfold mvP mvQ;rw[aEh om,aEh om];exact⟨by omega,rfl,rfl⟩
 rw[aEa h5]
 have e:∀a:Int,mvP ⟨op,a,0,0⟩=(if op≤5∨op=8 then 0 else if op≤10 then 1 else 2)∧mvQ ⟨op,a,0,0⟩=1:=fun a=>by
  unfold mvP mvQ
  refine⟨?_,aEh (by show((op:Nat):Int)≤23;omega)⟩
  show(if((op:Nat):Int)≤5∨((op:Nat):Int)=8 then(0:Int)else if((op:Nat):Int)≤10 then 1 else if((op:Nat):Int)≤23 then 2 else _)=_
  by_cases g1:op≤5∨op=8
  ·rw[aEh g1,aEh om]
  · rw[aEa g1,aEa om]
    by_cases g2:op≤10
    ·rw[aEh g2,aEh om]
    ·rw[aEa g2,aEa om,aEh om]
 by_cases h6:op=6∨op=7∨op=8
 ·rw[aEh h6];exact⟨by show 1≤op∧op≤23;omega,e _⟩
 ·rw[aEa h6];exact⟨by show 1≤op∧op≤23;omega,e _⟩
theorem RY{x:Ins}(h:x.op≤26∨x.op=29∨x.op=30∨x.op=31):(tgt x).isSome=false:=by
 unfold tgt;rw[aEa om,aEa om];rfl
def Ups(L i n:Nat)(k b:Int)(l:List Ins):Prop:=∀(h:List Int) (top v:Int),h.length=L+1→i+n≤L→max (h.getD i 0) 0=v→(∀j,i<j→j≤i+n→h.getD j 0=-1)→
 ∃h' top',goH i l h top=some (h',top')∧h'.length=L+1∧max (h'.getD (i+n) 0) 0=v+k∧(∀j,i+n<j→h'.getD j 0=h.getD j 0)∧(∀j,j<i→h'.getD j 0=h.getD j 0)∧(0<n→h'.getD i 0=v)∧top≤top'∧top'≤max top (v+b)
theorem Ups.nil(L i:Nat){b:Int}:Ups L i 0 0 b []:=fun h top v hl hi hm hj=>⟨h,top,rfl,hl,by rw[aGm,hm];omega,fun j _=>rfl,fun j _=>rfl,fun h=>absurd h om,Int.le_refl _,by omega⟩
theorem Ups.app{L i n n':Nat}{k k' b b' c:Int}{l m:List Ins}(h1:Ups L i n k b l)(hn:l.length=n)(h2:Ups L (i+n) n' k' b' m)(hk:0≤k)(hb:b≤c)(hb':k+b'≤c):Ups L i (n+n') (k+k') c (l++m):=fun h top v hl hi hm hj=>by
 obtain⟨h',top',e,hl',hm',ha,hb1,hc,ht,ht'⟩:=h1 h top v hl om hm (fun j a b=>hj j a om)
 obtain⟨h'',top'',e',hl'',hm'',ha',hb2,hc',ht2,ht2'⟩:=h2 h' top' (v+k) hl' om hm' (fun j a b=>by rw[ha j a];exact hj j om om)
 refine⟨h'',top'',by rw[Nu,e,hn];exact e',hl'',by rw[←Nat.add_assoc,hm''];omega,fun j hj'=>by rw[ha' j om,ha j om],fun j hj'=>by rw[hb2 j om,hb1 j hj'],fun h0=>?_,by omega,by omega⟩
 by_cases hz:0<n
 ·rw[hb2 i om];exact hc hz
 · have e0:n=0:=om
   subst e0
   have hk0:l=[]:=aFp hn
   subst hk0
   have hh:h'=h:=by injection e with e;injection e with e1 e2;exact e1.symm
   subst hh
   have hz:v+k=v:=by rw[aGm]at hm';omega
   rw[←hz];exact hc' om
theorem Ups.one{L i:Nat}{x:Ins}{b:Int}(ho:1≤x.op∧x.op≤23)(p:Nat)(hq:mvQ x=1)(hb:1≤b):
    ∀(h:List Int) (top v:Int),mvP x=p→h.length=L+1→i+1≤L→max (h.getD i 0) 0=v+p→0≤v→h.getD (i+1) 0=-1→
     ∃h' top',goH i [x] h top=some (h',top')∧h'.length=L+1∧max (h'.getD (i+1) 0) 0=v+1∧(∀j,i+1<j→h'.getD j 0=h.getD j 0)∧(∀j,j<i→h'.getD j 0=h.getD j 0)∧h'.getD i 0=v+p∧top≤top'∧top'≤max top (max (v+p) (v+1)):=fun h top v hp hl hi hm hv hj=>by
 obtain⟨h',e,hl',a,b',c⟩:=step1 (top:=top) hl om ⟨ho.1,by omega⟩ (RY (.inl om)) ⟨by omega,by omega⟩ hm om (by rw[hj];unfold okH;omega)
 refine⟨h',_,by unfold goH;rw[e];rfl,hl',?_,fun j hj=>c j om om,fun j hj=>c j om om,a,by omega,by rw[hp,hq];omega⟩
 rw[b',hp,hq];omega
theorem XH{c:Cc}(hc:c.Loads){d:Nat}{e:PE}(h:WfE d e):∀L i,Ups L i (cE c e).length 1 (d+1) (cE c e):=by
 induction h with
 | leaf d op s n h=>
   intro L i
   obtain⟨ho,hp,hq⟩:=bQ hc s n (op:=op) om
   rw[aEh om]at hp
   intro h' top v hl hi hm hj
   obtain⟨h2,t2,e1,e2,e3,e4,e5,e6,e7,e8⟩:=Ups.one (b:=1) ho 0 hq om h' top v (by rw[hp];rfl) hl hi (by rw[hm];omega) om (hj _ om (aEu _))
   exact⟨h2,t2,e1,e2,e3,e4,e5,fun _=>by rw[e6];omega,e7,by omega⟩
 | un d op s n a h ha ih=>
   intro L i
   obtain⟨ho,hp,hq⟩:=bQ hc s n (op:=op) om
   rw[aEa om,aEh om]at hp
   have e0:cE c ⟨op,s,n,[a]⟩=cE c a++[opI c op s n]:=by show(cE c a++[])++_=_;rw[aEz]
   rw[e0,lap]
   intro h' top v hl hi hm hj
   have hi':i+((cE c a).length+1)≤L:=hi
   obtain⟨h1,t1,f1,f2,f3,f4,f5,f6,f7,f8⟩:=ih L i h' top v hl om hm (fun j x y=>hj j x (by show j≤i+((cE c a).length+1);omega))
   obtain⟨h2,t2,e1,e2,e3,e4,e5,e6,e7,e8⟩:=Ups.one (L:=L) (i:=i+(cE c a).length) (b:=1) ho 1 hq om h1 t1 v (by rw[hp];rfl) f2 om (by rw[f3];rfl) om (by rw[f4 _ om];exact hj _ om (by show _≤i+((cE c a).length+1);omega))
   refine⟨h2,t2,by rw[Nu,f1];exact e1,e2,e3,fun j hj=>?_,fun j hj=>by rw[e5 j om,f5 j hj],fun _=>?_,by omega,by omega⟩
   · have hj:i+((cE c a).length+1)<j:=hj
     rw[e4 j om,f4 j om]
   · by_cases hz:0<(cE c a).length
     ·rw[e5 i om];exact f6 hz
     · exfalso
       have:(cE c a).length=0:=om
       cases a with
       |mk o2 s2 n2 l2=>rw[show cE c ⟨o2,s2,n2,l2⟩=cEs c l2++[opI c o2 s2 n2]from rfl,lap]at this;simp at this
 | bin d op s n a b h ha hb iha ihb=>
   intro L i
   obtain⟨ho,hp,hq⟩:=bQ hc s n (op:=op) om
   rw[aEa om,aEa om]at hp
   have e0:cE c ⟨op,s,n,[a,b]⟩=(cE c a++cE c b)++[opI c op s n]:=by show(cE c a++(cE c b++[]))++_=_;rw[aEz]
   rw[e0,lap]
   intro h' top v hl hi hm hj
   have hi':i+((cE c a++cE c b).length+1)≤L:=hi
   have hab:=Ups.app (c:=d+2) (iha L i) rfl (ihb L (i+(cE c a).length)) om om om
   rw[←lap]at hab
   obtain⟨h1,t1,f1,f2,f3,f4,f5,f6,f7,f8⟩:=hab h' top v hl om hm (fun j x y=>hj j x (by show j≤i+((cE c a++cE c b).length+1);omega))
   obtain⟨h2,t2,e1,e2,e3,e4,e5,e6,e7,e8⟩:=Ups.one (L:=L) (i:=i+(cE c a++cE c b).length) (b:=1) ho 2 hq om h1 t1 v (by rw[hp];rfl) f2 om (by rw[f3];rfl) om (by rw[f4 _ om];exact hj _ om (by show _≤i+((cE c a++cE c b).length+1);omega))
   refine⟨h2,t2,by rw[Nu,f1];exact e1,e2,e3,fun j hj=>?_,fun j hj=>by rw[e5 j om,f5 j hj],fun _=>?_,by omega,by omega⟩
   · have hj:i+((cE c a++cE c b).length+1)<j:=hj
     rw[e4 j om,f4 j om]
   · by_cases hz:0<(cE c a++cE c b).length
     ·rw[e5 i om];exact f6 hz
     · exfalso
       have:(cE c a++cE c b).length=0:=om
       cases a with
       |mk o2 s2 n2 l2=>rw[show cE c ⟨o2,s2,n2,l2⟩=cEs c l2++[opI c o2 s2 n2]from rfl]at this;simp at this
theorem BK{c:Cc}(hc:c.Loads){d:Nat}:∀(l:List PE),(∀e∈l,WfE d e)→∀L i,Ups L i (cEs c l).length l.length (l.length+d) (cEs c l)
 |[],_,L,i=>Ups.nil L i
 | e::r,h,L,i=>by
   show Ups L i (cE c e++cEs c r).length _ _ (cE c e++cEs c r)
   rw[lap]
   have:=Ups.app (c:=((e::r).length:Int)+d) (XH hc (h e (aEd ..)) L i) rfl (BK hc r (fun x hx=>h x (aEb _ hx)) L (i+(cE c e).length)) om (by rw[lc1];omega) (by rw[lc1];omega)
   rw[show((e::r).length:Int)=1+(r.length:Int)from by rw[lc1];omega]at this⊢
   exact this
def Zr(h:List Int)(j:Nat):Prop:=h.getD j 0=-1∨h.getD j 0=0
structure Pre(L:Nat)(h:List Int)(p n:Nat):Prop where
 len:h.length=L+1
 le:p+n≤L
 at0:Zr h p
 mid:∀j,p<j→j<p+n→h.getD j 0=-1
 fin:Zr h (p+n)
structure Pst(L:Nat)(h h':List Int)(p n:Nat):Prop where
 len:h'.length=L+1
 fin:Zr h' (p+n)
 hi:∀j,p+n<j→h'.getD j 0=h.getD j 0
 lo:∀j,j<p→h'.getD j 0=h.getD j 0
 at0:0<n→h'.getD p 0=0
def Blk(L p:Nat)(l:List Ins):Prop:=∀h top,0≤top→Pre L h p l.length→∃h' top',goH p l h top=some (h',top')∧Pst L h h' p l.length∧top≤top'∧top'≤max top 10
theorem Zr.of{h h':List Int}{j:Nat}(e:h'.getD j 0=h.getD j 0)(z:Zr h j):Zr h' j:=by unfold Zr at*;rw[e];exact z
theorem Blk.nil(L p:Nat):Blk L p []:=fun h top ht hp=>⟨h,top,rfl,⟨hp.len,hp.fin,fun _ _=>rfl,fun _ _=>rfl,fun h=>absurd h (by decide)⟩,Int.le_refl _,by omega⟩
theorem Blk.app{L p:Nat}{l m:List Ins}(h1:Blk L p l)(h2:Blk L (p+l.length) m):Blk L p (l++m):=fun h top ht hp=>by
 have hn:(l++m).length=l.length+m.length:=lap
 have le:=hp.le
 have mid:=hp.mid
 have fin:=hp.fin
 rw[hn]at le mid fin⊢
 have q1:Pre L h p l.length:=⟨hp.len,by omega,hp.at0,fun j a b=>mid j a om,by
  by_cases z:l.length=0
  ·rw[z];exact hp.at0
  by_cases z2:m.length=0
  ·rw[z2]at fin;exact fin
  exact .inl (mid _ om om)⟩
 obtain⟨h',t',e1,s1,a1,b1⟩:=h1 h top ht q1
 have q2:Pre L h' (p+l.length) m.length:=⟨s1.len,by omega,s1.fin,fun j a b=>by rw[s1.hi j a];exact mid j om om,by
  by_cases z:m.length=0
  ·rw[z];exact s1.fin
  · refine Zr.of (s1.hi _ om) ?_
    rw[Nat.add_assoc];exact fin⟩
 obtain⟨h'',t'',e2,s2,a2,b2⟩:=h2 h' t' om q2
 refine⟨h'',t'',by rw[Nu,e1];exact e2,⟨s2.len,by rw[←Nat.add_assoc];exact s2.fin,fun j hj=>by rw[s2.hi j om,s1.hi j om],fun j hj=>by rw[s2.lo j om,s1.lo j hj],fun hz=>?_⟩,by omega,by omega⟩
 by_cases z:0<l.length
 ·rw[s2.lo p om];exact s1.at0 z
 · have z0:l.length=0:=om
   rw[z0]at s2
   exact s2.at0 om
def hdC(c:Cc)(es:List PE):List Ins:=(⟨29,0,0,0⟩:Ins)::cEs c es
theorem LU(L i:Nat):Ups L i 1 0 0 [⟨29,0,0,0⟩]:=fun h top v hl hi hm hj=>by
 obtain⟨h',e,hl',a,b,c⟩:=step1 (top:=top) (x:=⟨29,0,0,0⟩) hl om (by decide) rfl (by decide) hm (show(0:Int)≤v by omega) (by rw[hj _ om (aEu _)];unfold okH;omega)
 refine⟨h',_,by unfold goH;rw[e];rfl,hl',?_,fun j hj=>c j om om,fun j hj=>c j om om,fun _=>a,by omega,?_⟩
 ·rw[b];show max (v-0+0) 0=v+0;omega
 ·show max (max top v) (v-0+0)≤max top (v+0);omega
theorem XI{c:Cc}(hc:c.Loads){d:Nat}{es:List PE}(h:∀e∈es,WfE d e)(L i:Nat):Ups L i (hdC c es).length es.length (es.length+d) (hdC c es):=by
 have:=Ups.app (c:=(es.length:Int)+d) (LU L i) rfl (BK hc es h L (i+1)) om om om
 rw[show(hdC c es).length=1+(cEs c es).length from by show(cEs c es).length+1=_;omega]
 rw[show(0:Int)+(es.length:Int)=es.length from by omega]at this
 exact this
theorem VE{c:Cc}(hc:c.Loads){es:List PE}(h:∀e∈es,WfE 5 e)(hn:es.length≤5){L p n:Nat}{hs:List Int}{top:Int}(ht:0≤top)(hp:Pre L hs p n)(hx:(hdC c es).length<n):
    ∃h' top',goH p (hdC c es) hs top=some (h',top')∧h'.length=L+1∧max (h'.getD (p+(hdC c es).length) 0) 0=es.length∧(∀j,p+(hdC c es).length<j→h'.getD j 0=hs.getD j 0)∧(∀j,j<p→h'.getD j 0=hs.getD j 0)∧h'.getD p 0=0∧top≤top'∧top'≤max top 10:=by
 have le:=hp.le
 obtain⟨h',t',e1,e2,e3,e4,e5,e6,e7,e8⟩:=XI hc h L p hs top 0 hp.len om (by have:=hp.at0;unfold Zr at this;omega) (fun j a b=>hp.mid j a om)
 exact⟨h',t',e1,e2,by rw[e3];omega,e4,e5,e6 (by show 0<(cEs c es).length+1;omega),e7,by omega⟩
theorem aJ{c:Cc}(hc:c.Loads){es:List PE}(h:∀e∈es,WfE 5 e)(hn:es.length≤5){y:Ins}(ho:1≤y.op∧y.op≤34)(hj:(tgt y).isSome=false)(h27:y.op≠27∧y.op≠34)(hp:mvP y=es.length)(hq:mvQ y=0)(L p:Nat):Blk L p (hdC c es++[y]):=fun hs top ht pre=>by
 have hl:(hdC c es++[y]).length=(hdC c es).length+1:=by rw[lap];rfl
 rw[hl]at pre⊢
 obtain⟨h1,t1,e1,e2,e3,e4,e5,e6,e7,e8⟩:=VE hc h hn ht pre om
 have fin:=pre.fin
 have le:=pre.le
 obtain⟨h2,f1,f2,f3,f4,f5⟩:=step1 (top:=t1) (i:=p+(hdC c es).length) e2 om ho hj h27 e3 om (by rw[hp,hq,e4 _ om];unfold okH;unfold Zr at fin;rw[←Nat.add_assoc]at fin;omega)
 refine⟨h2,_,by rw[Nu,e1];show goH _ [y] h1 t1=_;unfold goH;rw[f1];rfl,⟨f2,?_,fun j hj=>?_,fun j hj=>?_,fun _=>?_⟩,by omega,by rw[hp,hq];omega⟩
 ·right;rw[←Nat.add_assoc,f4,hp,hq];omega
 ·rw[f5 j om om,e4 j om]
 ·rw[f5 j om om,e5 j hj]
 ·rw[f5 p (by show p≠p+((cEs c es).length+1);omega) om];exact e6
theorem qD{c:Cc}(hc:c.Loads){es:List PE}(h:∀e∈es,WfE 5 e)(hn:es.length≤5){y:Ins}{L p n t:Nat}(ho:1≤y.op∧y.op≤34)(hj:tgt y=some ((t:Nat):Int))(h27:y.op≠27∧y.op≠34)(hp:mvP y=es.length)(hq:mvQ y=0)
    {hs:List Int} {top:Int} (ht:0≤top) (pre:Pre L hs p n) (hx:(hdC c es).length+1≤n) (hlo:p+(hdC c es).length<t) (hhi:t≤p+n):
    ∃h' top',goH p (hdC c es++[y]) hs top=some (h',top')∧h'.length=L+1∧h'.getD (p+(hdC c es).length+1) 0=0∧h'.getD t 0=0∧(∀j,p+(hdC c es).length+1<j→j≠t→h'.getD j 0=hs.getD j 0)∧(∀j,j<p→h'.getD j 0=hs.getD j 0)∧h'.getD p 0=0∧top≤top'∧top'≤max top 10:=by
 obtain⟨h1,t1,e1,e2,e3,e4,e5,e6,e7,e8⟩:=VE hc h hn ht pre om
 have fin:=pre.fin
 have le:=pre.le
 have zz:∀j,p+(hdC c es).length<j→j≤p+n→h1.getD j 0=-1∨h1.getD j 0=0:=fun j a b=>by
  rw[e4 j a]
  by_cases z:j=p+n
  ·rw[z];exact fin
  ·exact .inl (pre.mid j om om)
 obtain⟨h2,f1,f2,f3,f4,f5,f6⟩:=step2 (top:=t1) (i:=p+(hdC c es).length) (t:=t) e2 om ⟨hlo,by omega⟩ ho hj h27 e3 hp hq (zz _ om om) (zz _ hlo hhi)
 refine⟨h2,_,by rw[Nu,e1];show goH _ [y] h1 t1=_;unfold goH;rw[f1];rfl,f2,f4,f5,fun j a b=>by rw[f6 j om om b,e4 j om],fun j a=>by rw[f6 j om om om,e5 j a],?_,by omega,by omega⟩
 rw[f6 p (by show p≠p+((cEs c es).length+1);omega) om om];exact e6
theorem LV{L r:Nat}{e:List Ins}{b:Bool}(he:b=false→Blk L (r+1) e){h:List Int}{top:Int}(ht:0≤top)(hl:h.length=L+1)(le:r+(ovr r e b).length≤L)(h0:Zr h r)(h1:b=false→Zr h (r+1))
    (mid:∀j,r+1<j→j<r+(ovr r e b).length→h.getD j 0=-1) (fin:Zr h (r+(ovr r e b).length)):
    ∃h' top',goH r (ovr r e b) h top=some (h',top')∧Pst L h h' r (ovr r e b).length∧top≤top'∧top'≤max top 10:=by
 cases b with
 |true=>exact⟨h,top,rfl,⟨hl,h0,fun _ _=>rfl,fun _ _=>rfl,fun h=>absurd h (Nat.lt_irrefl 0)⟩,Int.le_refl _,by omega⟩
 | false=>
   have hn:(ovr r e false).length=e.length+1:=rfl
   rw[hn]at le mid fin⊢
   obtain⟨h2,f1,f2,f3,f4,f5⟩:=VD (top:=top) (i:=r) (t:=r+1+e.length) hl om ⟨by omega,by omega⟩ h0 (by unfold Zr at fin;rw[show r+1+e.length=r+(e.length+1) by omega];exact fin)
   have q:Pre L h2 (r+1) e.length:=⟨f2,by omega,by
    by_cases z:e.length=0
    ·right;rw[show r+1=r+1+e.length by omega];exact f4
    ·exact Zr.of (f5 _ om om) (h1 rfl),fun j a b=>by rw[f5 j om om];exact mid j a om, .inr f4⟩
   obtain⟨h3,t3,e1,s3,a3,b3⟩:=he rfl h2 (max (max top 0) 0) om q
   refine⟨h3,t3,?_,⟨s3.len,by rw[show r+(e.length+1)=r+1+e.length by omega];exact s3.fin,fun j hj=>by rw[s3.hi j om,f5 j om om],fun j hj=>by rw[s3.lo j om,f5 j om om],fun _=>by rw[s3.lo r om];exact f3⟩,by omega,by omega⟩
   show goH r (⟨27,((r+1+e.length:Nat):Int),0,0⟩::e) h top=_
   unfold goH
   rw[f1]
   exact e1
inductive WfS:PS→Prop
 |one (k:Nat) (s h:ByteArray) (es:List PE) (hk:(k=1∧es.length=1)∨(k=2∧es.length=2)∨(k=3∧es.length=1)∨(k=6∧es.length≤4)∨(k=7∧1≤es.length∧es.length≤5)) (he:∀e∈es,WfE 5 e):WfS ⟨k,s,h,es,[],[]⟩
 |ife (s h:ByteArray) (a:PE) (t e:List PS) (ha:WfE 5 a) (ht:∀x∈t,WfS x) (he:∀x∈e,WfS x):WfS ⟨4,s,h,[a],t,e⟩
 |whl (s h:ByteArray) (a:PE) (t:List PS) (ha:WfE 5 a) (ht:∀x∈t,WfS x):WfS ⟨5,s,h,[a],t,[]⟩
 |sto (s h:ByteArray) (a b:PE) (e:List PS) (ha:WfE 5 a) (hb:WfE 5 b) (he:∀x∈e,WfS x):WfS ⟨8,s,h,[a,b],[],e⟩
 |fet (s h:ByteArray) (a:PE) (e:List PS) (ha:WfE 5 a) (he:∀x∈e,WfS x):WfS ⟨9,s,h,[a],[],e⟩
 |stop (s h:ByteArray):WfS ⟨10,s,h,[],[],[]⟩
theorem Yl{P:PE→Prop}{a:PE}(h:P a):∀e∈[a],P e:=fun e he=>by rw[aEr.1 he];exact h
theorem LW{P:PE→Prop}{a b:PE}(h:P a)(k:P b):∀e∈[a,b],P e:=fun e he=>by
 rcases aEi.1 he with rfl|he
 ·exact h
 ·rw[aEr.1 he];exact k
theorem bR{c:Cc}{L:Nat}:∀(l:List PS) (p:Nat),(∀s∈l,∀p,Blk L p (cS c s p))→Blk L p (cB c l p)
 |[],p,_=>Blk.nil L p
 |s::r,p,h=>Blk.app (h s (aEd ..) p) (bR r _ fun x hx=>h x (aEb _ hx))
theorem mW{c:Cc}(hc:c.Loads){es:List PE}(h:∀e∈es,WfE 5 e)(hn:es.length≤5){L p:Nat}{e:List PS}{y:Ins}(ho:1≤y.op∧y.op≤34)(hj:tgt y=some ((p+(hdC c es).length+1+(if e.isEmpty then 0 else 1):Nat):Int))(h27:y.op≠27∧y.op≠34)(hp:mvP y=es.length)(hq:mvQ y=0)
    (ih:∀s∈e,∀p,Blk L p (cS c s p)):Blk L p (hdC c es++y::ovr (p+(hdC c es).length+1) (cB c e (p+(hdC c es).length+1+1)) e.isEmpty):=fun hs top ht pre=>by
 obtain⟨r,hr⟩:∃r,p+(hdC c es).length+1=r:=⟨_,rfl⟩
 obtain⟨o,ho2⟩:∃o,ovr r (cB c e (r+1)) e.isEmpty=o:=⟨_,rfl⟩
 rw[hr]at hj⊢
 rw[hr]at pre
 rw[ho2]at pre⊢
 have hlen:(hdC c es++y::o).length=(hdC c es).length+1+o.length:=by rw[lap,lc1];omega
 rw[hlen]at pre⊢
 have hol:e.isEmpty=false→1≤o.length:=fun hb=>by rw[←ho2,hb];show 1≤(cB c e (r+1)).length+1;omega
 have le:=pre.le
 obtain⟨h1,t1,e1,e2,e3,e4,e5,e6,e7,e8,e9⟩:=qD (t:=r+(if e.isEmpty then 0 else 1)) hc h hn ho hj h27 hp hq ht pre om om (by
  cases hb:e.isEmpty with
  |true=>rw[aEh rfl];omega
  |false=>rw[aEa Bool.false_ne_true];have:=hol hb;omega)
 rw[hr]at e3 e5
 have z1:∀j,r<j→j<p+((hdC c es).length+1+o.length)→j≠r+(if e.isEmpty then 0 else 1)→h1.getD j 0=-1:=fun j a b d=>by rw[e5 j a d];exact pre.mid j om om
 have fin:Zr h1 (r+o.length):=by
  by_cases z:r+o.length=r+(if e.isEmpty then 0 else 1)
  ·rw[z];exact .inr e4
  · by_cases z2:o.length=0
    ·rw[z2];exact .inr e3
    · refine Zr.of (e5 _ om z) ?_
      rw[show r+o.length=p+((hdC c es).length+1+o.length) by omega];exact pre.fin
 obtain⟨h2,t2,f1,s2,f3,f4⟩:=LV (L:=L) (r:=r) (e:=cB c e (r+1)) (b:=e.isEmpty) (h:=h1) (top:=t1) (fun _=>bR e _ ih) om e2 (by rw[ho2];omega) (.inr e3) (fun hb=>by
  rw[hb,aEa Bool.false_ne_true]at e4;exact .inr e4) (fun j a b=>by
   rw[ho2]at b
   refine z1 j om om ?_
   split<;>omega) (by rw[ho2];exact fin)
 rw[ho2]at f1 s2
 refine⟨h2,t2,?_,⟨s2.len,by rw[show p+((hdC c es).length+1+o.length)=r+o.length by omega];exact s2.fin,fun j hj=>?_,fun j hj=>by rw[s2.lo j om,e6 j hj],fun _=>?_⟩,by omega,by omega⟩
 · rw[show hdC c es++y::o=(hdC c es++[y])++o from by rw[aFb];rfl,Nu,e1]
   show goH (p+(hdC c es++[y]).length) o h1 t1=_
   rw[lap,show p+((hdC c es).length+[y].length)=r from by show p+((hdC c es).length+1)=r;omega]
   exact f1
 · rw[s2.hi j om]
   by_cases z:j=r+(if e.isEmpty then 0 else 1)
   · exfalso
     cases hb:e.isEmpty with
     |true=>rw[hb,aEh rfl]at z;omega
     |false=>rw[hb,aEa Bool.false_ne_true]at z;have:=hol hb;omega
   ·exact e5 j om z
 ·rw[s2.lo p (by show p<r;rw[←hr];show p<p+((cEs c es).length+1)+1;omega)];exact e7
theorem okO(n:Nat)(h:1≤n∧n≤34:=by decide):1≤n∧n≤34:=h
theorem neO(n:Nat)(h:n≠27∧n≠34:=by decide):n≠27∧n≠34:=h
theorem XJ{c:Cc}(hc:c.Loads){a:PE}(ha:WfE 5 a){L p:Nat}{t e:List PS}(iht:∀s∈t,∀p,Blk L p (cS c s p))(ihe:∀s∈e,∀p,Blk L p (cS c s p))(r:Nat)(hr:p+(hdC c [a]).length+1=r):
    Blk L p (hdC c [a]++⟨28,((r+(cB c t r).length+(if e.isEmpty then 0 else 1):Nat):Int),0,0⟩::(cB c t r++ovr (r+(cB c t r).length) (cB c e (r+(cB c t r).length+1)) e.isEmpty)):=fun hs top ht pre=>by
 obtain⟨B,hB⟩:∃B,cB c t r=B:=⟨_,rfl⟩
 have blkB:Blk L r B:=by rw[←hB];exact bR t r iht
 rw[hB]at pre⊢
 clear hB
 obtain⟨q,hq⟩:∃q,r+B.length=q:=⟨_,rfl⟩
 rw[hq]at pre⊢
 obtain⟨o,ho2⟩:∃o,ovr q (cB c e (q+1)) e.isEmpty=o:=⟨_,rfl⟩
 rw[ho2]at pre⊢
 obtain⟨y,hy⟩:∃y:Ins,(⟨28,((q+(if e.isEmpty then 0 else 1):Nat):Int),0,0⟩:Ins)=y:=⟨_,rfl⟩
 rw[hy]at pre⊢
 have hlen:(hdC c [a]++y::(B++o)).length=(hdC c [a]).length+1+B.length+o.length:=by rw[lap,lc1,lap];omega
 rw[hlen]at pre⊢
 have hol:e.isEmpty=false→1≤o.length:=fun hb=>by rw[←ho2,hb];show 1≤(cB c e (q+1)).length+1;omega
 have le:=pre.le
 have hj2:q+(if e.isEmpty then 0 else 1)≤p+((hdC c [a]).length+1+B.length+o.length):=by
  cases hb:e.isEmpty with
  |true=>rw[aEh rfl];omega
  |false=>rw[aEa Bool.false_ne_true];have:=hol hb;omega
 obtain⟨h1,t1,e1,e2,e3,e4,e5,e6,e7,e8,e9⟩:=qD (t:=q+(if e.isEmpty then 0 else 1)) (y:=y) hc (Yl ha) (by show 1≤5;omega) (by rw[←hy];exact okO 28) (by rw[←hy];rfl) (by rw[←hy];exact neO 28) (by rw[←hy];rfl) (by rw[←hy];rfl) ht pre om om hj2
 rw[hr]at e3 e5
 have z1:∀j,r<j→j<p+((hdC c [a]).length+1+B.length+o.length)→j≠q+(if e.isEmpty then 0 else 1)→h1.getD j 0=-1:=fun j a b d=>by rw[e5 j a d];exact pre.mid j om om
 have preB:Pre L h1 r B.length:=⟨e2,by omega, .inr e3,fun j a b=>z1 j a om (by split<;>omega),by
  by_cases z:r+B.length=q+(if e.isEmpty then 0 else 1)
  ·rw[z];exact .inr e4
  · by_cases z2:B.length=0
    ·rw[z2];exact .inr e3
    · have hb:e.isEmpty=false:=by
        cases hb:e.isEmpty with
        |true=>rw[hb,aEh rfl]at z;omega
        |false=>rfl
      have:=hol hb
      exact .inl (z1 _ om om z)⟩
 obtain⟨h2,t2,f1,s2,f3,f4⟩:=blkB h1 t1 om preB
 have fin:Zr h2 (q+o.length):=by
  by_cases z2:o.length=0
  ·rw[z2,aGm,←hq];exact s2.fin
  · refine Zr.of (s2.hi _ om) ?_
    by_cases z:q+o.length=q+(if e.isEmpty then 0 else 1)
    ·rw[z];exact .inr e4
    · refine Zr.of (e5 _ om z) ?_
      rw[show q+o.length=p+((hdC c [a]).length+1+B.length+o.length) by omega];exact pre.fin
 obtain⟨h3,t3,g1,s3,g3,g4⟩:=LV (L:=L) (r:=q) (e:=cB c e (q+1)) (b:=e.isEmpty) (h:=h2) (top:=t2) (fun _=>bR e _ ihe) om s2.len (by rw[ho2];omega) (by rw[←hq];exact s2.fin) (fun hb=>by
  refine Zr.of (s2.hi _ om) ?_
  rw[hb,aEa Bool.false_ne_true]at e4;exact .inr e4) (fun j a b=>by
   rw[ho2]at b
   rw[s2.hi j om]
   exact z1 j om om (by split<;>omega)) (by rw[ho2];exact fin)
 rw[ho2]at g1 s3
 have hpr:p<r:=by rw[←hr];show p<p+((cEs c [a]).length+1)+1;omega
 refine⟨h3,t3,?_,⟨s3.len,by rw[show p+((hdC c [a]).length+1+B.length+o.length)=q+o.length by omega];exact s3.fin,fun j hj=>?_,fun j hj=>by rw[s3.lo j om,s2.lo j om,e6 j hj],fun _=>?_⟩,by omega,by omega⟩
 · rw[show hdC c [a]++y::(B++o)=((hdC c [a]++[y])++B)++o from by rw[aFb,aFb];rfl,Nu,Nu,e1]
   show(goH (p+(hdC c [a]++[y]).length) B h1 t1).bind _=_
   have hl1:(hdC c [a]++[y]).length=(hdC c [a]).length+1:=by rw[lap];rfl
   rw[hl1,show p+((hdC c [a]).length+1)=r by omega,f1]
   show goH (p+((hdC c [a]++[y])++B).length) o h2 t2=_
   rw[lap,hl1,show p+((hdC c [a]).length+1+B.length)=q by omega]
   exact g1
 · rw[s3.hi j om,s2.hi j om]
   by_cases z:j=q+(if e.isEmpty then 0 else 1)
   · exfalso
     cases hb:e.isEmpty with
     |true=>rw[hb,aEh rfl]at z;omega
     |false=>rw[hb,aEa Bool.false_ne_true]at z;have:=hol hb;omega
   ·exact e5 j om z
 ·rw[s3.lo p om,s2.lo p om];exact e7
theorem FC{c:Cc}(hc:c.Loads){a:PE}(ha:WfE 5 a){L p:Nat}{t:List PS}(iht:∀s∈t,∀p,Blk L p (cS c s p))(r:Nat)(hr:p+(hdC c [a]).length+1=r):
    Blk L p (hdC c [a]++⟨28,((r+(cB c t r).length+1:Nat):Int),0,0⟩::(cB c t r++[⟨27,((p:Nat):Int),0,0⟩])):=fun hs top ht pre=>by
 obtain⟨B,hB⟩:∃B,cB c t r=B:=⟨_,rfl⟩
 have blkB:Blk L r B:=by rw[←hB];exact bR t r iht
 rw[hB]at pre⊢
 clear hB
 obtain⟨q,hq⟩:∃q,r+B.length=q:=⟨_,rfl⟩
 rw[hq]at pre⊢
 obtain⟨y,hy⟩:∃y:Ins,(⟨28,((q+1:Nat):Int),0,0⟩:Ins)=y:=⟨_,rfl⟩
 rw[hy]at pre⊢
 have hlen:(hdC c [a]++y::(B++[⟨27,((p:Nat):Int),0,0⟩])).length=(hdC c [a]).length+1+B.length+1:=by rw[lap,lc1,lap];show _+(_+1+1)=_;omega
 rw[hlen]at pre⊢
 have le:=pre.le
 obtain⟨h1,t1,e1,e2,e3,e4,e5,e6,e7,e8,e9⟩:=qD (t:=q+1) (y:=y) hc (Yl ha) (by show 1≤5;omega) (by rw[←hy];exact okO 28) (by rw[←hy];rfl) (by rw[←hy];exact neO 28) (by rw[←hy];rfl) (by rw[←hy];rfl) ht pre om om om
 rw[hr]at e3 e5
 have z1:∀j,r<j→j<p+((hdC c [a]).length+1+B.length+1)→h1.getD j 0=-1:=fun j a b=>by rw[e5 j a om];exact pre.mid j om om
 have preB:Pre L h1 r B.length:=⟨e2,by omega, .inr e3,fun j a b=>z1 j a om,by
  by_cases z2:B.length=0
  ·rw[z2];exact .inr e3
  ·exact .inl (z1 _ om om)⟩
 obtain⟨h2,t2,f1,s2,f3,f4⟩:=blkB h1 t1 om preB
 have hpr:p<r:=by rw[←hr];show p<p+((cEs c [a]).length+1)+1;omega
 obtain⟨h3,g1,g2,g3,g4,g5⟩:=VD (top:=t2) (i:=q) (t:=p) s2.len om ⟨by omega,by omega⟩ (by have:=s2.fin;rw[hq]at this;exact this) (.inr (by rw[s2.lo p om];exact e7))
 refine⟨h3,max (max t2 0) 0,?_,⟨g2,?_,fun j hj=>?_,fun j hj=>by rw[g5 j om om,s2.lo j om,e6 j hj],fun _=>g4⟩,by omega,by omega⟩
 · rw[show hdC c [a]++y::(B++[⟨27,((p:Nat):Int),0,0⟩])=((hdC c [a]++[y])++B)++[⟨27,((p:Nat):Int),0,0⟩]from by rw[aFb,aFb];rfl,Nu,Nu,e1]
   show(goH (p+(hdC c [a]++[y]).length) B h1 t1).bind _=_
   have hl1:(hdC c [a]++[y]).length=(hdC c [a]).length+1:=by rw[lap];rfl
   rw[hl1,show p+((hdC c [a]).length+1)=r by omega,f1]
   show goH (p+((hdC c [a]++[y])++B).length) [⟨27,((p:Nat):Int),0,0⟩] h2 t2=_
   rw[lap,hl1,show p+((hdC c [a]).length+1+B.length)=q by omega]
   unfold goH
   rw[g1]
   rfl
 · rw[show p+((hdC c [a]).length+1+B.length+1)=q+1 by omega]
   right
   rw[g5 _ om om,s2.hi _ om];exact e4
 ·rw[g5 j om om,s2.hi j om];exact e5 j om om
theorem LX(L p:Nat):Blk L p [⟨29,0,0,0⟩,⟨34,0,0,0⟩]:=fun hs top ht pre=>by
 have le:p+2≤L:=pre.le
 have m1:hs.getD (p+1) 0=-1:=pre.mid (p+1) om (by show p+1<p+2;omega)
 obtain⟨h1,e1,e2,e3,e4,e5⟩:=step1 (top:=top) (m:=0) (x:=⟨29,0,0,0⟩) pre.len (show p<L by omega) (okO 29) rfl (neO 29) (by have:=pre.at0;unfold Zr at this;omega) (Int.le_refl _) (by rw[m1];unfold okH;omega)
 obtain⟨h2,f1,f2,f3,f4⟩:=aBq (top:=max (max top 0) 0) (i:=p+1) e2 om (.inr e4)
 refine⟨h2,max (max (max (max top 0) 0) 0) 0,?_,⟨f2,?_,fun j hj=>?_,fun j hj=>by rw[f4 j om,e5 j om om],fun _=>by rw[f4 p om];exact e3⟩,by omega,by omega⟩
 · unfold goH
   rw[e1]
   show goH (p+1) [⟨34,0,0,0⟩] h1 (max (max top 0) 0)=_
   unfold goH
   rw[f1]
   rfl
 · refine Zr.of ?_ pre.fin
   show h2.getD (p+2) 0=hs.getD (p+2) 0
   rw[f4 _ om,e5 _ om om]
 · have hj:p+2<j:=hj
   rw[f4 j om,e5 j om om]
theorem XK{c:Cc}(hc:c.Loads){L:Nat}{s:PS}(h:WfS s):∀p,Blk L p (cS c s p):=by
 induction h with
 | one k s h es hk he=>
   intro p
   rcases hk with⟨rfl,hn⟩|⟨rfl,hn⟩|⟨rfl,hn⟩|⟨rfl,hn⟩|⟨rfl,h1,hn⟩
   ·exact aJ hc he om (y:=⟨24,c.vs s,0,0⟩) (okO 24) rfl (neO 24) (by rw[hn];rfl) rfl L p
   ·exact aJ hc he om (y:=⟨25,c.ts s,0,0⟩) (okO 25) rfl (neO 25) (by rw[hn];rfl) rfl L p
   ·exact aJ hc he om (y:=⟨26,c.ts s,0,0⟩) (okO 26) rfl (neO 26) (by rw[hn];rfl) rfl L p
   ·exact aJ hc he om (y:=⟨30,(c.tg s h).1,(c.tg s h).2,((es.length:Nat):Int)⟩) (okO 30) rfl (neO 30) rfl rfl L p
   ·exact aJ hc he om (y:=⟨31,0,c.ah h,((es.length:Nat):Int)-1⟩) (okO 31) rfl (neO 31) (show((es.length:Nat):Int)-1+1=_ by omega) rfl L p
 |ife s h a t e ha ht he iht ihe=>intro p;exact XJ hc ha iht ihe _ rfl
 |whl s h a t ha ht iht=>intro p;exact FC hc ha iht _ rfl
 |sto s h a b e ha hb he ihe=>intro p;exact mW hc (LW ha hb) (by show 2≤5;omega) (y:=⟨32,0,_,0⟩) (okO 32) rfl (neO 32) rfl rfl ihe
 |fet s h a e ha he ihe=>intro p;exact mW hc (Yl ha) (by show 1≤5;omega) (y:=⟨33,c.vs s,_,0⟩) (okO 33) rfl (neO 33) rfl rfl ihe
 |stop s h=>intro p;exact LX L p
theorem StE.wf{c:Ct}(hc:c.Ok){np d:Nat}{s:PS}(h:StE c np d s):WfS s:=by
 induction h with
 |setB d e h=>exact .one _ _ _ _ (by simp) (Yl h.wf)
 |setX d k e hk h=>exact .one _ _ _ _ (by simp) (Yl (h.wf.up om))
 |put d a b ht ha hb=>exact .one _ _ _ _ (by simp) (LW (ha.wf.up om) (hb.wf.up om))
 |del d a ht ha=>exact .one _ _ _ _ (by simp) (Yl (ha.wf.up om))
 |ife d e t l h ht hl iht ihl=>exact .ife _ _ _ _ _ h.wf iht ihl
 |whl d e t h ht iht=>exact .whl _ _ _ _ h.wf iht
 | send d to h ar l ha hh hl=>
   have h2:=(hc.each ar (mog ha)).2.2 _ (mog hh)
   exact .one _ _ _ _ (.inr (.inr (.inr (.inl ⟨rfl,by omega⟩)))) fun e he=>(hl e he).wf.up om
 | after d h ar e l ha hh he hl=>
   have h2:=(hc.each ar (mog ha)).2.2 _ (mog hh)
   exact .one _ _ _ _ (.inr (.inr (.inr (.inr ⟨rfl,by rw[lc1];omega,by rw[lc1];omega⟩)))) fun x hx=>by
    rcases aEi.1 hx with rfl|hx
    ·exact he.wf.up om
    ·exact(hl x hx).wf.up om
 |store d a b l ha hb hl ihl=>exact .sto _ _ _ _ _ (ha.wf.up om) (hb.wf.up om) ihl
 |fetch d k e l hk h hl ihl=>exact .fet _ _ _ _ (h.wf.up om) ihl
 |stop d=>exact .stop _ _
theorem qE{c:Cc}(hc:c.Loads){l:List PS}(h:∀s∈l,WfS s):∃t:Int,Et (cB c l 0)=(t,true)∧0≤t∧t≤10:=by
 have hr:∀j,j≤(cB c l 0).length→(List.replicate ((cB c l 0).length+1) (-1:Int)).getD j 0=-1:=fun j hj=>by
  rw[aEx,List.getElem?_replicate,aEh om];rfl
 obtain⟨h',t',e,s,a,b⟩:=bR (L:=(cB c l 0).length) l 0 (fun s hs=>XK hc (h s hs)) (List.replicate ((cB c l 0).length+1) (-1)) 0 (Int.le_refl _) ⟨by rw[aFu],by omega, .inl (hr _ om),fun j _ hj=>hr j om, .inl (hr _ om)⟩
 refine⟨t',?_,by omega,by omega⟩
 unfold Et
 rw[e]
 show(t',decide (h'.getD (cB c l 0).length 0≤0))=_
 have:=s.fin
 unfold Zr at this
 rw[aFl]at this
 rw[aEk om]
theorem qF(c:Cc)(op:Nat)(s:ByteArray)(n:Int)(l:List Ins):(l++[opI c op s n]).length=l.length+1:=by rw[lap];rfl
theorem WfE.len{c:Cc}{d:Nat}{e:PE}(h:WfE d e):(cE c e).length<2^(d+1):=by
 induction h with
 | leaf d op s n h=>
   show(([]:List Ins)++[opI c op s n]).length<_
   have:1≤2^d:=Nat.one_le_two_pow
   rw[qF,Nat.pow_succ];show 0+1<_;omega
 | un d op s n a h ha ih=>
   show((cE c a++[])++[opI c op s n]).length<_
   have:1≤2^d:=Nat.one_le_two_pow
   rw[qF,aEz]
   rw[Nat.pow_succ]at ih
   rw[Nat.pow_succ,Nat.pow_succ];omega
 | bin d op s n a b h ha hb iha ihb=>
   show((cE c a++(cE c b++[]))++[opI c op s n]).length<_
   rw[qF,aEz,lap,Nat.pow_succ];omega
theorem Wz{c:Cc}:∀(l:List PE),(∀e∈l,WfE 5 e)→(cEs c l).length≤63*l.length
 |[],_=>aEw _
 | e::r,h=>by
   have h1:(cE c e).length<2^6:=(h e (aEd ..)).len
   have h2:=Wz (c:=c) r fun x hx=>h x (aEb _ hx)
   show(cE c e++cEs c r).length≤_
   rw[lap,lc1];omega
theorem qG(p:Nat)(e:List Ins)(b:Bool):(ovr p e b).length≤e.length+1:=by
 cases b
 ·exact aEu _
 ·exact aEw _
theorem Ym{c:Cc}:∀(l:List PS) (p:Nat),(∀s∈l,∀p,(cS c s p).length≤318*s.cnt)→(cB c l p).length≤318*Ca l
 |[],p,_=>aEw _
 | s::r,p,h=>by
   show(cS c s p++cB c r _).length≤318*(s.cnt+Ca r)
   have h1:=h s (aEd ..) p
   have h2:=Ym r (p+(cS c s p).length) fun x hx=>h x (aEb _ hx)
   rw[lap];omega
theorem XL{c:Cc}{s:PS}(h:WfS s):∀p,(cS c s p).length≤318*s.cnt:=by
 induction h with
 | one k s h es hk he=>
   intro p
   have:=Wz (c:=c) es he
   have hn:es.length≤5:=om
   have e:(PS.cnt ⟨k,s,h,es,[],[]⟩)=1:=rfl
   rw[e]
   rcases hk with⟨rfl,_⟩|⟨rfl,_⟩|⟨rfl,_⟩|⟨rfl,_⟩|⟨rfl,_⟩
   ·show(hdC c es++[(⟨24,c.vs s,0,0⟩:Ins)]).length≤_;rw[lap];show(cEs c es).length+1+1≤_;omega
   ·show(hdC c es++[(⟨25,c.ts s,0,0⟩:Ins)]).length≤_;rw[lap];show(cEs c es).length+1+1≤_;omega
   ·show(hdC c es++[(⟨26,c.ts s,0,0⟩:Ins)]).length≤_;rw[lap];show(cEs c es).length+1+1≤_;omega
   ·show(hdC c es++[(⟨30,(c.tg s h).1,(c.tg s h).2,((es.length:Nat):Int)⟩:Ins)]).length≤_;rw[lap];show(cEs c es).length+1+1≤_;omega
   ·show(hdC c es++[(⟨31,0,c.ah h,((es.length:Nat):Int)-1⟩:Ins)]).length≤_;rw[lap];show(cEs c es).length+1+1≤_;omega
 | ife s h a t e ha ht he iht ihe=>
   intro p
   have h1:=Wz (c:=c) [a] (Yl ha)
   obtain⟨r,hr⟩:∃r,p+(hdC c [a]).length+1=r:=⟨_,rfl⟩
   show(hdC c [a]++(⟨28,((p+(hdC c [a]).length+1+(cB c t (p+(hdC c [a]).length+1)).length+(if e.isEmpty then 0 else 1):Nat):Int),0,0⟩:Ins)::(cB c t (p+(hdC c [a]).length+1)++ovr (p+(hdC c [a]).length+1+(cB c t (p+(hdC c [a]).length+1)).length) (cB c e (p+(hdC c [a]).length+1+(cB c t (p+(hdC c [a]).length+1)).length+1)) e.isEmpty)).length≤318*(1+Ca t+Ca e)
   rw[hr]
   have h2:=Ym t r iht
   have h3:=Ym e (r+(cB c t r).length+1) ihe
   have h4:=qG (r+(cB c t r).length) (cB c e (r+(cB c t r).length+1)) e.isEmpty
   rw[lap,lc1,lap]
   have h5:(hdC c [a]).length=(cEs c [a]).length+1:=rfl
   have h6:[a].length=1:=rfl
   omega
 | whl s h a t ha ht iht=>
   intro p
   have h1:=Wz (c:=c) [a] (Yl ha)
   obtain⟨r,hr⟩:∃r,p+(hdC c [a]).length+1=r:=⟨_,rfl⟩
   show(hdC c [a]++(⟨28,((p+(hdC c [a]).length+1+(cB c t (p+(hdC c [a]).length+1)).length+1:Nat):Int),0,0⟩:Ins)::(cB c t (p+(hdC c [a]).length+1)++[(⟨27,((p:Nat):Int),0,0⟩:Ins)])).length≤318*(1+Ca t+0)
   rw[hr]
   have h2:=Ym t r iht
   rw[lap,lc1,lap]
   have h5:(hdC c [a]).length=(cEs c [a]).length+1:=rfl
   have h6:[a].length=1:=rfl
   have h7:[(⟨27,((p:Nat):Int),0,0⟩:Ins)].length=1:=rfl
   omega
 | sto s h a b e ha hb he ihe=>
   intro p
   have h1:=Wz (c:=c) [a,b] (LW ha hb)
   obtain⟨r,hr⟩:∃r,p+(hdC c [a,b]).length+1=r:=⟨_,rfl⟩
   show(hdC c [a,b]++(⟨32,0,((p+(hdC c [a,b]).length+1+(if e.isEmpty then 0 else 1):Nat):Int),0⟩:Ins)::ovr (p+(hdC c [a,b]).length+1) (cB c e (p+(hdC c [a,b]).length+1+1)) e.isEmpty).length≤318*(1+0+Ca e)
   rw[hr]
   have h3:=Ym e (r+1) ihe
   have h4:=qG r (cB c e (r+1)) e.isEmpty
   rw[lap,lc1]
   have h5:(hdC c [a,b]).length=(cEs c [a,b]).length+1:=rfl
   have h6:[a,b].length=2:=rfl
   omega
 | fet s h a e ha he ihe=>
   intro p
   have h1:=Wz (c:=c) [a] (Yl ha)
   obtain⟨r,hr⟩:∃r,p+(hdC c [a]).length+1=r:=⟨_,rfl⟩
   show(hdC c [a]++(⟨33,c.vs s,((p+(hdC c [a]).length+1+(if e.isEmpty then 0 else 1):Nat):Int),0⟩:Ins)::ovr (p+(hdC c [a]).length+1) (cB c e (p+(hdC c [a]).length+1+1)) e.isEmpty).length≤318*(1+0+Ca e)
   rw[hr]
   have h3:=Ym e (r+1) ihe
   have h4:=qG r (cB c e (r+1)) e.isEmpty
   rw[lap,lc1]
   have h5:(hdC c [a]).length=(cEs c [a]).length+1:=rfl
   have h6:[a].length=1:=rfl
   omega
 |stop s h=>intro p;show 2≤318*1;omega
structure Cc.Is(cc:Cc)(c:Ct)(np:Nat):Prop where
 ldx:∀k,k<c.ints→cc.pn (nm 120 k)=⟨2,(k:Int),0,0⟩
 ldb:cc.pn nB0=⟨2,(c.ints:Int),0,0⟩
 ldp:∀k,k<np→cc.pn (nm 112 k)=⟨3,(k:Int),0,0⟩
 ldf:∀k,k<c.flags→cc.pn (nm 102 k)=⟨4,(k:Int),0,0⟩
 vsx:∀k,k<c.ints→cc.vs (nm 120 k)=(k:Int)
 vsb:cc.vs nB0=(c.ints:Int)
 ts:0<c.tables→cc.ts nT0=0
 tg:∀to ar h n,c.ars[to]?=some ar→ar[h]?=some n→cc.tg (nC to) (nm 104 h)=((to:Int),(h:Int))
 ah:∀ar h n,c.ars[c.own]?=some ar→ar[h]?=some n→cc.ah (nm 104 h)=(h:Int)
structure Each(c:Ct)(np:Nat)(Q:Ins→Prop):Prop where
 one:∀n:Int,0≤n→n<9→Q ⟨1,0,0,n⟩
 plain:∀op:Nat,op=5∨(9≤op∧op≤23)∨op=29∨op=34→Q ⟨op,0,0,0⟩
 ldx:∀k:Nat,k≤c.ints→Q ⟨2,(k:Int),0,0⟩
 ldp:∀k:Nat,k<np→Q ⟨3,(k:Int),0,0⟩
 ldf:∀k:Nat,k<c.flags→Q ⟨4,(k:Int),0,0⟩
 stx:∀k:Nat,k≤c.ints→Q ⟨24,(k:Int),0,0⟩
 tab:∀op:Nat,0<c.tables→(6≤op∧op≤8)∨op=25∨op=26→Q ⟨op,0,0,0⟩
 send:∀to h n:Nat,to<3→h<3→n≤2→Q ⟨30,(to:Int),(h:Int),(n:Int)⟩
 after:∀h n:Nat,h<3→n≤2→Q ⟨31,0,(h:Int),(n:Int)⟩
def Tv(Q:Ins→Prop)(l:List Ins):Prop:=∀x∈l,Q x
theorem Tv.nil{Q:Ins→Prop}:Tv Q []:=fun _ h=>by cases h
theorem Tv.cons{Q:Ins→Prop}{x:Ins}{l:List Ins}(h:Q x)(hl:Tv Q l):Tv Q (x::l):=fun y hy=>by
 rcases aEi.1 hy with rfl|hy
 ·exact h
 ·exact hl y hy
theorem Tv.app{Q:Ins→Prop}{l m:List Ins}(h:Tv Q l)(hm:Tv Q m):Tv Q (l++m):=fun y hy=>(aFi.1 hy).elim (h y) (hm y)
theorem Tv.le{Q:Ins→Prop}{l:List Ins}(h:Tv Q l){x:Ins}(hx:x∈l):Q x:=h x hx
theorem Kh.all{cc:Cc}{c:Ct}{np d:Nat}{e:PE}{Q:Ins→Prop}(hq:Each c np Q)(hc:cc.Is c np)(h:Kh c np d e):Tv Q (cE cc e):=by
 induction h with
 |num d n h=>exact .cons (hq.one (n:Int) om om) .nil
 |var d k h=>exact .cons (by show Q (cc.pn _);rw[hc.ldx k h];exact hq.ldx k om) .nil
 |par d k h=>exact .cons (by show Q (cc.pn _);rw[hc.ldp k h];exact hq.ldp k h) .nil
 |now d=>exact .cons (hq.plain 5 om) .nil
 |get d e ht h ih=>exact .app (.app ih .nil) (.cons (by show Q ⟨6,cc.ts nT0,0,0⟩;rw[hc.ts ht];exact hq.tab 6 ht om) .nil)
 |size d ht=>exact .cons (by show Q ⟨8,cc.ts nT0,0,0⟩;rw[hc.ts ht];exact hq.tab 8 ht om) .nil
 |neg d e h ih=>exact .app (.app ih .nil) (.cons (hq.plain 9 om) .nil)
 | bin d op a b ho ha hb iha ihb=>
   refine .app (.app iha (.app ihb .nil)) (.cons ?_ .nil)
   unfold opI
   rw[aEa om,aEa om,aEa om,aEa om,aEa om,aEa om]
   exact hq.plain op om
theorem Pj.all{cc:Cc}{c:Ct}{np d:Nat}{e:PE}{Q:Ins→Prop}(hq:Each c np Q)(hc:cc.Is c np)(h:Pj c np d e):Tv Q (cE cc e):=by
 induction h with
 | tf d op h=>
   rcases h with rfl|rfl
   ·exact .cons (hq.one 1 (by decide) (by decide)) .nil
   ·exact .cons (hq.one 0 (by decide) (by decide)) .nil
 |b0 d=>exact .cons (by show Q (cc.pn _);rw[hc.ldb];exact hq.ldx _ (aEu _)) .nil
 |flag d k h=>exact .cons (by show Q (cc.pn _);rw[hc.ldf k h];exact hq.ldf k h) .nil
 |has d e ht h=>exact .app (.app (h.all hq hc) .nil) (.cons (by show Q ⟨7,cc.ts nT0,0,0⟩;rw[hc.ts ht];exact hq.tab 7 ht om) .nil)
 |not d e h ih=>exact .app (.app ih .nil) (.cons (hq.plain 10 om) .nil)
 | two d op a b ho ha hb iha ihb=>
   refine .app (.app iha (.app ihb .nil)) (.cons ?_ .nil)
   unfold opI
   rw[aEa om,aEa om,aEa om,aEa om,aEa om,aEa om]
   exact hq.plain op om
 | cmp d op a b ho ha hb=>
   refine .app (.app (ha.all hq hc) (.app (hb.all hq hc) .nil)) (.cons ?_ .nil)
   unfold opI
   rw[aEa om,aEa om,aEa om,aEa om,aEa om,aEa om]
   exact hq.plain op om
theorem qH{cc:Cc}{Q:Ins→Prop}:∀{l:List PE},(∀e∈l,Tv Q (cE cc e))→Tv Q (cEs cc l)
 |[],_=> .nil
 |e::r,h=> .app (h e (aEd ..)) (qH fun x hx=>h x (aEb _ hx))
theorem qI{Q:Ins→Prop}{p:Nat}{e:List Ins}{b:Bool}(h:b=false→Q ⟨27,((p+1+e.length:Nat):Int),0,0⟩)(he:Tv Q e):Tv Q (ovr p e b):=by
 cases b
 ·exact .cons (h rfl) he
 ·exact .nil
structure LY(n:Nat)(ints:Nat)(Q:Ins→Prop):Prop where
 jump:∀op t:Nat,op=27∨op=28→t≤n→Q ⟨op,(t:Int),0,0⟩
 store:∀t:Nat,t≤n→Q ⟨32,0,(t:Int),0⟩
 fetch:∀k t:Nat,k≤ints→t≤n→Q ⟨33,(k:Int),(t:Int),0⟩
theorem Wd{cc:Cc}{Q:Ins→Prop}{n:Nat}:∀(l:List PS) (p:Nat),(∀s∈l,∀p,p+(cS cc s p).length≤n→Tv Q (cS cc s p))→p+(cB cc l p).length≤n→Tv Q (cB cc l p)
 |[],_,_,_=> .nil
 | s::r,p,h,hn=>by
   have hn:p+(cS cc s p++cB cc r (p+(cS cc s p).length)).length≤n:=hn
   rw[lap]at hn
   exact .app (h s (aEd ..) p om) (Wd r _ (fun x hx=>h x (aEb _ hx)) om)
theorem StE.all{cc:Cc}{c:Ct}(hok:c.Ok){np d n:Nat}{s:PS}{Q:Ins→Prop}(hq:Each c np Q)(hj:LY n c.ints Q)(hc:cc.Is c np)(h:StE c np d s):∀p,p+(cS cc s p).length≤n→Tv Q (cS cc s p):=by
 have cost:Q ⟨29,0,0,0⟩:=hq.plain 29 om
 induction h with
 |setB d e h=>intro p _;exact .app (.cons cost (.app (h.all hq hc) .nil)) (.cons (by show Q ⟨24,cc.vs nB0,0,0⟩;rw[hc.vsb];exact hq.stx _ (aEu _)) .nil)
 |setX d k e hk h=>intro p _;exact .app (.cons cost (.app (h.all hq hc) .nil)) (.cons (by show Q ⟨24,cc.vs (nm 120 k),0,0⟩;rw[hc.vsx k hk];exact hq.stx k om) .nil)
 |put d a b ht ha hb=>intro p _;exact .app (.cons cost (.app (ha.all hq hc) (.app (hb.all hq hc) .nil))) (.cons (by show Q ⟨25,cc.ts nT0,0,0⟩;rw[hc.ts ht];exact hq.tab 25 ht om) .nil)
 |del d a ht ha=>intro p _;exact .app (.cons cost (.app (ha.all hq hc) .nil)) (.cons (by show Q ⟨26,cc.ts nT0,0,0⟩;rw[hc.ts ht];exact hq.tab 26 ht om) .nil)
 | ife d e t l h ht hl iht ihl=>
   intro p
   obtain⟨r,hr⟩:∃r,p+(hdC cc [e]).length+1=r:=⟨_,rfl⟩
   have e0:cS cc ⟨4,nE,nE,[e],t,l⟩ p=hdC cc [e]++⟨28,((r+(cB cc t r).length+(if l.isEmpty then 0 else 1):Nat):Int),0,0⟩::(cB cc t r++ovr (r+(cB cc t r).length) (cB cc l (r+(cB cc t r).length+1)) l.isEmpty):=by rw[←hr];rfl
   rw[e0,lap,lc1,lap]
   intro hn
   have hov:l.isEmpty=false→(ovr (r+(cB cc t r).length) (cB cc l (r+(cB cc t r).length+1)) l.isEmpty).length=(cB cc l (r+(cB cc t r).length+1)).length+1:=fun hb=>by rw[hb];rfl
   refine .app (.cons cost (.app (h.all hq hc) .nil)) (.cons (hj.jump 28 _ om ?_) (.app (Wd t r iht om) ?_))
   · cases hb:l.isEmpty with
     |true=>rw[aEh rfl];omega
     |false=>rw[aEa Bool.false_ne_true];have:=hov hb;omega
   · cases hb:l.isEmpty with
     |true=>exact .nil
     | false=>
       have:=hov hb
       exact qI (fun _=>hj.jump 27 _ om om) (Wd l _ ihl om)
 | whl d e t h ht iht=>
   intro p
   obtain⟨r,hr⟩:∃r,p+(hdC cc [e]).length+1=r:=⟨_,rfl⟩
   have e0:cS cc ⟨5,nE,nE,[e],t,[]⟩ p=hdC cc [e]++⟨28,((r+(cB cc t r).length+1:Nat):Int),0,0⟩::(cB cc t r++[⟨27,((p:Nat):Int),0,0⟩]):=by rw[←hr];rfl
   rw[e0,lap,lc1,lap]
   have h7:[(⟨27,((p:Nat):Int),0,0⟩:Ins)].length=1:=rfl
   intro hn
   exact .app (.cons cost (.app (h.all hq hc) .nil)) (.cons (hj.jump 28 _ om om) (.app (Wd t r iht om) (.cons (hj.jump 27 _ om om) .nil)))
 | send d to h ar l ha hh hl=>
   intro p _
   have h3:=hok.each ar (mog ha)
   have h2:=h3.2.2 _ (mog hh)
   have h4:=(aEc.1 ha).1
   have h5:=(aEc.1 hh).1
   have h6:=hok.some
   refine .app (.cons cost (qH fun x hx=>(hl x hx).all hq hc)) (.cons ?_ .nil)
   show Q ⟨30,(cc.tg (nC to) (nm 104 h)).1,(cc.tg (nC to) (nm 104 h)).2,((l.length:Nat):Int)⟩
   rw[hc.tg to ar h _ ha hh]
   exact hq.send to h _ om om h2
 | after d h ar e l ha hh he hl=>
   intro p _
   have h3:=hok.each ar (mog ha)
   have h2:=h3.2.2 _ (mog hh)
   have h5:=(aEc.1 hh).1
   refine .app (.cons cost (qH fun x hx=>?_)) (.cons ?_ .nil)
   · rcases aEi.1 hx with rfl|hx
     ·exact he.all hq hc
     ·exact(hl x hx).all hq hc
   · show Q ⟨31,0,cc.ah (nm 104 h),(((e::l).length:Nat):Int)-1⟩
     rw[hc.ah ar h _ ha hh,show(((e::l).length:Nat):Int)-1=((l.length:Nat):Int)from by rw[lc1];omega]
     exact hq.after h _ om h2
 | store d a b l ha hb hl ihl=>
   intro p
   obtain⟨r,hr⟩:∃r,p+(hdC cc [a,b]).length+1=r:=⟨_,rfl⟩
   have e0:cS cc ⟨8,nE,nE,[a,b],[],l⟩ p=hdC cc [a,b]++⟨32,0,((r+(if l.isEmpty then 0 else 1):Nat):Int),0⟩::ovr r (cB cc l (r+1)) l.isEmpty:=by rw[←hr];rfl
   rw[e0,lap,lc1]
   intro hn
   have hov:l.isEmpty=false→(ovr r (cB cc l (r+1)) l.isEmpty).length=(cB cc l (r+1)).length+1:=fun hb=>by rw[hb];rfl
   refine .app (.cons cost (.app (ha.all hq hc) (.app (hb.all hq hc) .nil))) (.cons (hj.store _ ?_) ?_)
   · cases hb:l.isEmpty with
     |true=>rw[aEh rfl];omega
     |false=>rw[aEa Bool.false_ne_true];have:=hov hb;omega
   · cases hb:l.isEmpty with
     |true=>exact .nil
     | false=>
       have:=hov hb
       exact qI (fun _=>hj.jump 27 _ om om) (Wd l _ ihl om)
 | fetch d k e l hk h hl ihl=>
   intro p
   obtain⟨r,hr⟩:∃r,p+(hdC cc [e]).length+1=r:=⟨_,rfl⟩
   have e0:cS cc ⟨9,nm 120 k,nE,[e],[],l⟩ p=hdC cc [e]++⟨33,cc.vs (nm 120 k),((r+(if l.isEmpty then 0 else 1):Nat):Int),0⟩::ovr r (cB cc l (r+1)) l.isEmpty:=by rw[←hr];rfl
   rw[e0,lap,lc1]
   intro hn
   have hov:l.isEmpty=false→(ovr r (cB cc l (r+1)) l.isEmpty).length=(cB cc l (r+1)).length+1:=fun hb=>by rw[hb];rfl
   refine .app (.cons cost (.app (h.all hq hc) .nil)) (.cons ?_ ?_)
   · rw[hc.vsx k hk]
     refine hj.fetch k _ om ?_
     cases hb:l.isEmpty with
     |true=>rw[aEh rfl];omega
     |false=>rw[aEa Bool.false_ne_true];have:=hov hb;omega
   · cases hb:l.isEmpty with
     |true=>exact .nil
     | false=>
       have:=hov hb
       exact qI (fun _=>hj.jump 27 _ om om) (Wd l _ ihl om)
 |stop d=>intro p _;exact .cons cost (.cons (hq.plain 34 om) .nil)
theorem FD{c:Ct}(hok:c.Ok){np n:Nat}(hnp:np≤4):Each c np (fun x=>Np (np:Int) n x=true)∧LY n c.ints (fun x=>Np (np:Int) n x=true):=by
 have hi:=hok.ints
 have hf:=hok.flags
 refine⟨⟨fun k _ _=>?_,fun op ho=>?_,fun k hk=>?_,fun k hk=>?_,fun k hk=>?_,fun k hk=>?_,fun op _ ho=>?_,fun to h k h1 h2 h3=>?_,fun h k h1 h2=>?_⟩,⟨fun op t ho ht=>?_,fun t ht=>?_,fun k t hk ht=>?_⟩⟩
 ·simp[Np,uA,uB,uN,jR]
 ·rcases(by omega:op=5∨op=9∨op=10∨op=11∨op=12∨op=13∨op=14∨op=15∨op=16∨op=17∨op=18∨op=19∨op=20∨op=21∨op=22∨op=23∨op=29∨op=34)with rfl|rfl|rfl|rfl|rfl|rfl|rfl|rfl|rfl|rfl|rfl|rfl|rfl|rfl|rfl|rfl|rfl|rfl<;>simp[Np,uA,uB,uN,jR]
 ·simp[Np,uA,uB,uN,jR];omega
 ·simp[Np,uA,uB,uN,jR];omega
 ·simp[Np,uA,uB,uN,jR];omega
 ·simp[Np,uA,uB,uN,jR];omega
 ·rcases(by omega:op=6∨op=7∨op=8∨op=25∨op=26)with rfl|rfl|rfl|rfl|rfl<;>simp[Np,uA,uB,uN,jR]
 ·simp[Np,uA,uB,uN,jR];omega
 ·simp[Np,uA,uB,uN,jR];omega
 ·rcases ho with rfl|rfl<;>simp[Np,uA,uB,uN,jR]<;>omega
 ·simp[Np,uA,uB,uN,jR];omega
 ·simp[Np,uA,uB,uN,jR];omega
theorem Vx{l m:List Nat}(hl:∀x∈l,x<256)(hm:∀x∈m,x<256)(h:aLy l=aLy m):l=m:=by
 have h1:(l.map UInt8.ofNat).toArray=(m.map UInt8.ofNat).toArray:=congrArg ByteArray.data h
 have h2:l.map UInt8.ofNat=m.map UInt8.ofNat:=by simpa using h1
 have e:∀l:List Nat,(∀x∈l,x<256)→(l.map UInt8.ofNat).map UInt8.toNat=l:=fun l hl=>by
  rw[aGr]
  exact(List.map_congr_left fun x hx=>by
   show(UInt8.ofNat x).toNat=id x
   rw[UInt8.toNat_ofNat'];exact Nat.mod_eq_of_lt (hl x hx)).trans (List.map_id l)
 rw[←e l hl,h2,e m hm]
theorem Qd{c d k j:Nat}(hc:c<256)(hd:d<256)(hk:k<200)(hj:j<200)(h:nm c k=nm d j):c=d∧k=j:=by
 have:=Vx (l:=[c,48+k]) (m:=[d,48+j]) (by intro x hx;simp only[aEi,aEs,or_false]at hx;omega) (by intro x hx;simp only[aEi,aEs,or_false]at hx;omega) h
 simp only[List.cons.injEq,and_true]at this
 omega
theorem jN{i j:Nat}(hi:i<100)(hj:j<100)(h:nC i=nC j):i=j:=by
 have:=Vx (l:=[97+i]) (m:=[97+j]) (by intro x hx;simp only[aEi,aEs,or_false]at hx;omega) (by intro x hx;simp only[aEi,aEs,or_false]at hx;omega) h
 simp only[List.cons.injEq,and_true]at this
 omega
theorem bS:nB0=nm 98 0:=rfl
def ixF(s:ByteArray):Nat→List ByteArray→Option Nat
 |_,[]=>none
 |k,x::r=>if x=s then some k else ixF s (k+1) r
theorem Kv{s:ByteArray}:∀{l:List ByteArray} {k:Nat},s∉l→ixF s k l=none
 |[],_,_=>rfl
 | x::r,k,h=>by
   rw[ixF,aEa fun e=>h (by rw[e];exact aEd ..)]
   exact Kv fun hx=>h (aEb _ hx)
theorem Yn{s:ByteArray}:∀{l:List ByteArray} {k j:Nat},l[j]?=some s→(∀i,i<j→l[i]?≠some s)→ixF s k l=some (k+j)
 |[],_,_,h,_=>by simp at h
 |x::r,k,0,h,_=>by rw[ixF,aEh (by simpa using h)];rfl
 | x::r,k,j+1,h,hn=>by
   have h0:=hn 0 om
   rw[ixF,aEa (by intro e;exact h0 (by rw[e];rfl)),Yn (l:=r) (k:=k+1) (j:=j) (by simpa using h) (fun i hi=>by have:=hn (i+1) om;simpa using this)]
   congr 1;omega
theorem Tg{c n k:Nat}(hc:c<256)(hn:n<200)(hk:k<n)(m:Nat):ixF (nm c k) m (nms c n)=some (m+k):=by
 refine Yn (Ea hk) fun i hi h=>?_
 rw[Ea om]at h
 have:=(Qd hc hc om om (aEn h)).2
 omega
theorem Rc{c d n k:Nat}(hc:c<256)(hd:d<256)(hn:n<200)(hk:k<200)(h:c≠d):nm d k∉nms c n:=fun hm=>by
 unfold nms at hm
 obtain⟨i,hi,he⟩:=aEv.1 hm
 have:=(Qd hc hd (by have:=List.mem_range.1 hi;omega) hk he).1
 exact h this
def slF(s:ByteArray)(tab:Bool):Nat→List Vr→Option Nat
 |_,[]=>none
 |k,v::r=>if decide (v.ty=3)≠tab then slF s tab k r else if v.name=s then some k else slF s tab (k+1) r
def oI(o:Option Nat):Int:=match o with|some k=>(k:Int)|none=>-1
def slI(vars:List Vr)(s:ByteArray)(tab:Bool):Int:=oI (slF s tab 0 vars)
instance XM(s:ByteArray):(l:List ByteArray)→Decidable (s∈l)
 |[]=> .isFalse (fun h=>by cases h)
 | x::r=>if h:s=x then .isTrue (by rw[h];exact aEd ..)else match XM s r with
   | .isTrue k=> .isTrue (aEb _ k)
   | .isFalse k=> .isFalse fun m=>(aEi.1 m).elim h k
def Uz(o:List ByteArray)(l:List PH):List ByteArray:=l.foldl (fun(o:List ByteArray) (h:PH)=>if h.name∈o then o else o++[h.name]) o
def hnames(v:List (List PH)):List ByteArray:=v.foldl Uz []
def tgF(cn hn:ByteArray):Nat→List PC→Int×Int
 |_,[]=>(-1,-1)
 |i,c::r=>if c.name=cn then(match ixF hn 0 (hnames c.vers)with|some h=>((i:Int),(h:Int))|none=>tgF cn hn (i+1) r)else tgF cn hn (i+1) r
def ccR(f:PF)(own:ByteArray)(vars:List Vr)(ps:List ByteArray):Cc where
 pn s:=match ixF s 0 ps with|some k=>⟨3,(k:Int),0,0⟩|none=>match ixF s 0 (f.flags.map Fg.name)with|some k=>⟨4,(k:Int),0,0⟩|none=>⟨2,slI vars s false,0,0⟩
 vs s:=slI vars s false
 ts s:=slI vars s true
 tg c h:=tgF c h 0 f.comps
 ah h:=(tgF own h 0 f.comps).2
theorem FE(f:PF)(own:ByteArray)(vars:List Vr)(ps:List ByteArray):(ccR f own vars ps).Loads:=fun s=>by
 unfold ccR
 simp only
 split
 ·exact(show 2≤3∧3≤4 by decide)
 · split
   ·exact(show 2≤4∧4≤4 by decide)
   ·exact(show 2≤2∧2≤4 by decide)
def Oa(vars:List Vr)(tab:Bool):List ByteArray:=(vars.filter fun v=>decide (v.ty=3)==tab).map Vr.name
def ccP(f:PF)(own:Nat)(vars:List Vr)(ps:List ByteArray):Cc where
 pn s:=match ixF s 0 ps with|some k=>⟨3,(k:Int),0,0⟩|none=>match ixF s 0 (Oa vars false)with|some k=>⟨2,(k:Int),0,0⟩|none=>⟨4,oI (ixF s 0 (f.flags.map Fg.name)),0,0⟩
 vs s:=oI (ixF s 0 (Oa vars false))
 ts s:=oI (ixF s 0 (Oa vars true))
 tg c h:=(oI (ixF c 0 (f.comps.map PC.name)),oI (ixF h 0 (((f.comps.map fun c=>hnames c.vers)[(oI (ixF c 0 (f.comps.map PC.name))).toNat]?).getD [])))
 ah h:=oI (ixF h 0 (((f.comps.map fun c=>hnames c.vers)[own]?).getD []))
theorem xN(s:ByteArray)(tab:Bool):∀(vars:List Vr) (k:Nat),slF s tab k vars=ixF s k (Oa vars tab)
 |[],k=>rfl
 | v ::r,k=>by
   rw[slF]
   unfold Oa
   by_cases h:decide (v.ty=3)=tab
   · rw[aEa (fun e=>e h),List.filter_cons_of_pos (by rw[h];exact beq_self_eq_true _),aFn,ixF,xN s tab r (k+1)]
     rfl
   · rw[aEh h,List.filter_cons_of_neg (by simpa using h),xN s tab r k]
     rfl
theorem We(ints tables:Nat):Oa (varsOf ints tables) false=nms 120 ints++[nB0]:=by
 unfold Oa varsOf nms
 rw[List.filter_append,List.filter_append,aEq,aEq]
 have h1:((List.range ints).map (fun k=>(⟨nm 120 k,1,(k:Int)⟩:Vr))).filter (fun v=>decide (v.ty=3)==false)=(List.range ints).map (fun k=>(⟨nm 120 k,1,(k:Int)⟩:Vr)):=List.filter_eq_self.2 fun v hv=>by
  obtain⟨k,_,rfl⟩:=aEv.1 hv;rfl
 have h2:((List.range tables).map (fun _=>(⟨nT0,3,0⟩:Vr))).filter (fun v=>decide (v.ty=3)==false)=[]:=List.filter_eq_nil_iff.2 fun v hv=>by
  obtain⟨k,_,rfl⟩:=aEv.1 hv;exact Bool.false_ne_true
 rw[h1,h2,aGr,List.map_nil,aEz]
 rfl
theorem tZ(ints tables:Nat):Oa (varsOf ints tables) true=List.replicate tables nT0:=by
 unfold Oa varsOf
 rw[List.filter_append,List.filter_append,aEq,aEq]
 have h1:((List.range ints).map (fun k=>(⟨nm 120 k,1,(k:Int)⟩:Vr))).filter (fun v=>decide (v.ty=3)==true)=[]:=List.filter_eq_nil_iff.2 fun v hv=>by
  obtain⟨k,_,rfl⟩:=aEv.1 hv;exact Bool.false_ne_true
 have h2:((List.range tables).map (fun _=>(⟨nT0,3,0⟩:Vr))).filter (fun v=>decide (v.ty=3)==true)=(List.range tables).map (fun _=>(⟨nT0,3,0⟩:Vr)):=List.filter_eq_self.2 fun v hv=>by
  obtain⟨k,_,rfl⟩:=aEv.1 hv;rfl
 rw[h1,h2,aGr]
 show[]++[]++(List.range tables).map (fun _=>nT0)=_
 rw[aEz,aGi,List.map_const',List.length_range]
theorem bT{a:Nat}:∀(l:List PH) (k:Nat),k≤a→a+l.length<100→(∀j h,l[j]?=some h→h.name=nm 104 (k+j))→Uz (nms 104 a) l=nms 104 (max a (k+l.length))
 | [],k,hk,_,_=>by
   rw[ln0,aGm,Nat.max_eq_left hk];rfl
 | h ::r,k,hk,hn,hl=>by
   have h0:h.name=nm 104 k:=hl 0 h rfl
   rw[lc1]at hn
   have hr:∀j x,r[j]?=some x→x.name=nm 104 (k+1+j):=fun j x hx=>by
    rw[show k+1+j=k+(j+1) by omega];exact hl (j+1) x (by simpa using hx)
   show Uz (if h.name∈nms 104 a then nms 104 a else nms 104 a++[h.name]) r=_
   by_cases hlt:k<a
   ·rw[aEh (by rw[h0];exact mog (Ea hlt)),bT r (k+1) hlt om hr,lc1,show k+1+r.length=k+(r.length+1) by omega]
   · have hka:k=a:=om
     subst hka
     rw[aEa (by
      rw[h0];intro hm
      unfold nms at hm
      obtain⟨i,hi,he⟩:=aEv.1 hm
      have h1:=List.mem_range.1 hi
      have:=(Qd (by decide) (by decide) om om he).2
      omega),h0,←jG,bT r (k+1) (aEu _) om hr,lc1]
     congr 1;omega
theorem mU.names{c:Ct}{ar:List Nat}{l:List PH}(h:mU c ar l):∀j x,l[j]?=some x→x.name=nm 104 (0+j):=fun j x hx=>by rw[aFl];exact(h.2.2 j x hx).name
theorem dN{c:Ct}{ar:List Nat}(har:ar.length≤3):∀(v:List (List PH)) (a:Nat),a≤ar.length→(∀x∈v,mU c ar x)→∃b,v.foldl Uz (nms 104 a)=nms 104 b∧a≤b∧b≤ar.length∧∀x∈v,x.length≤b
 |[],a,ha,_=>⟨a,rfl,aEu _,ha,fun x h=>by cases h⟩
 | x ::r,a,ha,h=>by
   have hx:=h x (aEd ..)
   have hl:=hx.2.1
   obtain⟨b,e,h1,h2,h3⟩:=dN har r (max a (0+x.length)) om fun y hy=>h y (aEb _ hy)
   refine⟨b,?_,by omega,h2,fun y hy=>?_⟩
   ·rw[aGe,bT x 0 om om hx.names];exact e
   · rcases aEi.1 hy with rfl|hy
     ·omega
     ·exact h3 y hy
theorem Uy.hnames{flags:Nat}{ars:List (List Nat)}{i:Nat}{c:PC}(ho:tT ars)(h:Uy flags ars i c):∃ar,ars[i]?=some ar∧Go.Proofs.YtlihklladkagpaaGreatDoor.hnames c.vers=nms 104 ar.length:=by
 obtain⟨ints,tables,ar,_,_,ha,_,hv,_,x,hx,hl⟩:=h.vers
 obtain⟨b,e,_,h2,h3⟩:=dN (ho.2 ar (mog ha)).2.1 c.vers 0 om hv
 refine⟨ar,ha,?_⟩
 have:=h3 x hx
 rw[show ar.length=b by omega]
 exact e
theorem uC{f:PF}(h:Ku f){i:Nat}(hi:i<f.comps.length):ixF (nC i) 0 (f.comps.map PC.name)=some i:=by
 obtain⟨ars,ho,hl,hc⟩:=h.comps
 have hs:=ho.1.2
 have nmc:∀j,j<f.comps.length→(f.comps.map PC.name)[j]?=some (nC j):=fun j hj=>by
  rw[aEp,gge hj]
  exact congrArg some (hc j _ (gge hj)).name
 rw[Yn (j:=i) (nmc i hi) fun j hj he=>?_,aFl]
 rw[nmc j om]at he
 have:=jN om om (aEn he)
 omega
theorem jO{ars:List (List Nat)}{flags:Nat}(ho:tT ars){to h n:Nat}{ar:List Nat}(ht:ars[to]?=some ar)(hh:ar[h]?=some n):∀(l:List PC) (k:Nat),k≤to→to<k+l.length→k+l.length≤3→(∀j c,l[j]?=some c→Uy flags ars (k+j) c)→tgF (nC to) (nm 104 h) k l=((to:Int),(h:Int))
 |[],k,h1,h2,_,_=>by rw[ln0]at h2;omega
 | c ::r,k,h1,h2,h3,hg=>by
   rw[lc1]at h2 h3
   have h0:=hg 0 c rfl
   rw[aGm]at h0
   rw[tgF,h0.name]
   by_cases e:k=to
   · subst e
     obtain⟨ar',ha',hn⟩:=h0.hnames ho
     have:ar'=ar:=by rw[ht]at ha';exact(aEn ha').symm
     subst this
     have hlt:=(aEc.1 hh).1
     have h33:=(ho.2 ar' (mog ht)).2.1
     rw[aEh rfl,hn,Tg (by decide) om hlt 0,aFl]
   · rw[aEa (fun x=>e (jN om om x))]
     exact jO ho ht hh r (k+1) om om om fun j c hj=>by
      rw[show k+1+j=k+(j+1) by omega];exact hg (j+1) c (by simpa using hj)
structure OkC(f:PF)(i:Nat)(c:PC)(ct:Ct)(ar:List Nat):Prop where
 ok:ct.Ok
 own:ct.own=i
 arr:ct.ars[i]?=some ar
 flags:f.flags.map Fg.name=nms 102 ct.flags
 vars:c.vars=varsOf ct.ints ct.tables
 name:c.name=nC i
 vers:∀v∈c.vers,mU ct ar v
 hn:hnames c.vers=nms 104 ar.length
 tg:∀(to:Nat) (a:List Nat) (h n:Nat),ct.ars[to]?=some a→a[h]?=some n→tgF (nC to) (nm 104 h) 0 f.comps=((to:Int),(h:Int))
 cix:∀to:Nat,to<ct.ars.length→ixF (nC to) 0 (f.comps.map PC.name)=some to
 hall:∀(to:Nat) (a:List Nat),ct.ars[to]?=some a→(f.comps.map fun c=>hnames c.vers)[to]?=some (nms 104 a.length)
theorem Ku.okC{f:PF}(h:Ku f){i:Nat}{c:PC}(hc:f.comps[i]?=some c):∃ct ar,OkC f i c ct ar:=by
 obtain⟨ars,ho,hl,hg⟩:=h.comps
 have g:=hg i c hc
 obtain⟨ints,tables,ar,hi,ht,ha,hv,hvs,hvn,hx⟩:=g.vers
 obtain⟨ar',ha',hn⟩:=g.hnames ho
 have:ar'=ar:=by rw[ha]at ha';exact(aEn ha').symm
 subst this
 refine⟨⟨ints,tables,f.flags.length,i,ars⟩,ar',⟨⟨hi,ht,h.flags.1,(aEc.1 ha).1,ho.1.2,ho.2⟩,rfl,ha,h.flags.2,hv,g.name,hvs,hn,fun to a x n h1 h2=>?_,fun to hto=>?_,fun to a h1=>?_⟩⟩
 · have h7:to<ars.length:=(aEc.1 h1).1
   have h8:=ho.1.2
   exact jO ho h1 h2 f.comps 0 om om om fun j c hj=>by rw[aFl];exact hg j c hj
 · have hto:to<ars.length:=hto
   exact uC h om
 · have hlt:to<f.comps.length:=by rw[hl];exact(aEc.1 h1).1
   obtain⟨a2,hb,hn2⟩:=(hg to _ (gge hlt)).hnames ho
   rw[aEp,gge hlt]
   rw[h1]at hb
   rw[aEn hb]
   exact congrArg some hn2
theorem OkC.isR{f:PF}{i:Nat}{c:PC}{ct:Ct}{ar:List Nat}(h:OkC f i c ct ar){np:Nat}(hnp:np≤2):(ccR f c.name c.vars (nms 112 np)).Is ct np:=by
 have hi:=h.ok.ints
 have hf:=h.ok.flags
 have ht:=h.ok.tables
 have sl:∀s tab,slI c.vars s tab=oI (ixF s 0 (Oa (varsOf ct.ints ct.tables) tab)):=fun s tab=>by unfold slI;rw[h.vars,xN]
 have slx:∀k,k<ct.ints→slI c.vars (nm 120 k) false=(k:Int):=fun k hk=>by
  rw[sl,We,Yn (j:=k) (by rw[aFj (by rw[Dq];exact hk)];exact Ea hk) fun j hj he=>by
   rw[aFj (by rw[Dq];omega),Ea om]at he
   have:=(Qd (by decide) (by decide) om om (aEn he)).2
   omega,aFl]
  rfl
 have slb:slI c.vars nB0 false=(ct.ints:Int):=by
  rw[sl,We,Yn (j:=ct.ints) (by rw[aFw (by rw[Dq];exact aEu _),Dq,aGj];rfl) fun j hj he=>by
   rw[aFj (by rw[Dq];omega),Ea om]at he
   have:=(Qd (by decide) (by decide) om om ((aEn he).trans bS)).1
   omega,aFl]
  rfl
 refine⟨fun k hk=>?_,?_,fun k hk=>?_,fun k hk=>?_,slx,slb,fun h0=>?_,fun to a x n h1 h2=>h.tg to a x n h1 h2,fun a x n h1 h2=>?_⟩
 · show(match ixF _ 0 (nms 112 np)with|some k=>(⟨3,(k:Int),0,0⟩:Ins)|none=>match ixF _ 0 (f.flags.map Fg.name)with|some k=>⟨4,(k:Int),0,0⟩|none=>⟨2,slI c.vars _ false,0,0⟩)=_
   rw[Kv (Rc (by decide) (by decide) om om (by decide)),h.flags,Kv (Rc (by decide) (by decide) om om (by decide))]
   simp only[slx k hk]
 · show(match ixF _ 0 (nms 112 np)with|some k=>(⟨3,(k:Int),0,0⟩:Ins)|none=>match ixF _ 0 (f.flags.map Fg.name)with|some k=>⟨4,(k:Int),0,0⟩|none=>⟨2,slI c.vars _ false,0,0⟩)=_
   rw[Kv (by rw[bS];exact Rc (by decide) (by decide) om om (by decide)),h.flags,Kv (by rw[bS];exact Rc (by decide) (by decide) om om (by decide))]
   simp only[slb]
 · show(match ixF _ 0 (nms 112 np)with|some k=>(⟨3,(k:Int),0,0⟩:Ins)|none=>match ixF _ 0 (f.flags.map Fg.name)with|some k=>⟨4,(k:Int),0,0⟩|none=>⟨2,slI c.vars _ false,0,0⟩)=_
   rw[Tg (by decide) om hk 0,aFl]
 · show(match ixF _ 0 (nms 112 np)with|some k=>(⟨3,(k:Int),0,0⟩:Ins)|none=>match ixF _ 0 (f.flags.map Fg.name)with|some k=>⟨4,(k:Int),0,0⟩|none=>⟨2,slI c.vars _ false,0,0⟩)=_
   rw[Kv (Rc (by decide) (by decide) om om (by decide)),h.flags,Tg (by decide) om hk 0,aFl]
 · show slI c.vars nT0 true=0
   rw[sl,tZ,show ct.tables=1 by omega]
   rfl
 · show(tgF c.name (nm 104 x) 0 f.comps).2=(x:Int)
   rw[h.name,h.tg i a x n (by rw[←h.own];exact h1) h2]
theorem OkC.isP{f:PF}{i:Nat}{c:PC}{ct:Ct}{ar:List Nat}(h:OkC f i c ct ar){np:Nat}(hnp:np≤2):(ccP f i c.vars (nms 112 np)).Is ct np:=by
 have hi:=h.ok.ints
 have hf:=h.ok.flags
 have ht:=h.ok.tables
 have vx:∀k,k<ct.ints→ixF (nm 120 k) 0 (Oa c.vars false)=some k:=fun k hk=>by
  rw[h.vars,We,Yn (j:=k) (by rw[aFj (by rw[Dq];exact hk)];exact Ea hk) fun j hj he=>by
   rw[aFj (by rw[Dq];omega),Ea om]at he
   have:=(Qd (by decide) (by decide) om om (aEn he)).2
   omega,aFl]
 have vb:ixF nB0 0 (Oa c.vars false)=some ct.ints:=by
  rw[h.vars,We,Yn (j:=ct.ints) (by rw[aFw (by rw[Dq];exact aEu _),Dq,aGj];rfl) fun j hj he=>by
   rw[aFj (by rw[Dq];omega),Ea om]at he
   have:=(Qd (by decide) (by decide) om om ((aEn he).trans bS)).1
   omega,aFl]
 have vf:∀k,k<ct.flags→ixF (nm 102 k) 0 (Oa c.vars false)=none:=fun k hk=>by
  rw[h.vars,We]
  refine Kv fun hm=>?_
  rcases aFi.1 hm with hm|hm
  ·exact Rc (by decide) (by decide) om om (by decide) hm
  · have:=(Qd (by decide) (by decide) om om ((aEr.1 hm).trans bS)).1
    omega
 have np0:∀d k,d<256→k<200→112≠d→ixF (nm d k) 0 (nms 112 np)=none:=fun d k hd hk hne=>Kv (Rc (by decide) hd om hk hne)
 refine⟨fun k hk=>?_,?_,fun k hk=>?_,fun k hk=>?_,fun k hk=>?_,?_,fun h0=>?_,fun to a x n h1 h2=>?_,fun a x n h1 h2=>?_⟩
 · show(match ixF _ 0 (nms 112 np)with|some k=>(⟨3,(k:Int),0,0⟩:Ins)|none=>match ixF _ 0 (Oa c.vars false)with|some k=>⟨2,(k:Int),0,0⟩|none=>⟨4,_,0,0⟩)=_
   rw[np0 120 k (by decide) om (by decide),vx k hk]
 · show(match ixF _ 0 (nms 112 np)with|some k=>(⟨3,(k:Int),0,0⟩:Ins)|none=>match ixF _ 0 (Oa c.vars false)with|some k=>⟨2,(k:Int),0,0⟩|none=>⟨4,_,0,0⟩)=_
   rw[vb,bS,np0 98 0 (by decide) om (by decide)]
 · show(match ixF _ 0 (nms 112 np)with|some k=>(⟨3,(k:Int),0,0⟩:Ins)|none=>match ixF _ 0 (Oa c.vars false)with|some k=>⟨2,(k:Int),0,0⟩|none=>⟨4,_,0,0⟩)=_
   rw[Tg (by decide) om hk 0,aFl]
 · show(match ixF _ 0 (nms 112 np)with|some k=>(⟨3,(k:Int),0,0⟩:Ins)|none=>match ixF _ 0 (Oa c.vars false)with|some k=>⟨2,(k:Int),0,0⟩|none=>⟨4,oI (ixF _ 0 (f.flags.map Fg.name)),0,0⟩)=_
   rw[np0 102 k (by decide) om (by decide),vf k hk,h.flags,Tg (by decide) om hk 0,aFl]
   rfl
 ·show oI (ixF _ 0 (Oa c.vars false))=_;rw[vx k hk];rfl
 ·show oI (ixF _ 0 (Oa c.vars false))=_;rw[vb];rfl
 · show oI (ixF nT0 0 (Oa c.vars true))=0
   rw[h.vars,tZ,show ct.tables=1 by omega];rfl
 · have hlt:=(aEc.1 h1).1
   have hxl:=(aEc.1 h2).1
   have h33:=(h.ok.each a (mog h1)).2.1
   show(oI (ixF (nC to) 0 (f.comps.map PC.name)),oI (ixF (nm 104 x) 0 (((f.comps.map fun c=>hnames c.vers)[(oI (ixF (nC to) 0 (f.comps.map PC.name))).toNat]?).getD [])))=_
   rw[h.cix to hlt]
   show((to:Int),oI (ixF (nm 104 x) 0 (((f.comps.map fun c=>hnames c.vers)[to]?).getD [])))=_
   rw[h.hall to a h1]
   show((to:Int),oI (ixF (nm 104 x) 0 (nms 104 a.length)))=_
   rw[Tg (by decide) om hxl 0,aFl];rfl
 · have hxl:=(aEc.1 h2).1
   have h33:=(h.ok.each a (mog h1)).2.1
   show oI (ixF (nm 104 x) 0 (((f.comps.map fun c=>hnames c.vers)[i]?).getD []))=_
   rw[h.own]at h1
   rw[h.hall i a h1]
   show oI (ixF (nm 104 x) 0 (nms 104 a.length))=_
   rw[Tg (by decide) om hxl 0,aFl];rfl
end Go.Proofs.YtlihklladkagpaaGreatDoor

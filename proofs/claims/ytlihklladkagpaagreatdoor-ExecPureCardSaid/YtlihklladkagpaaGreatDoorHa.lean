/- Own text. -/
import Derived.Test.YtlihklladkagpaaGreatDoorGb
set_option linter.unusedVariables false
set_option linter.unusedSimpArgs false
namespace Go.Proofs.YtlihklladkagpaaGreatDoor
open Go.RowKit Go.Flow Go.Mem Go.Sep Go.In
theorem goH_app:∀(l m:List Ins) (i:Nat) (h:List Int) (top:Int),goH i (l++m) h top=(goH i l h top).bind fun p=>goH (i+l.length) m p.1 p.2
 |[],m,i,h,top=>rfl
 | x ::r,m,i,h,top=>by
   show((stepH h top i x).bind fun p=>goH (i+1) (r++m) p.1 p.2)=((stepH h top i x).bind fun p=>goH (i+1) r p.1 p.2).bind _
   cases stepH h top i x with
   |none=>rfl
   | some p=>
     show goH (i+1) (r++m) p.1 p.2=(goH (i+1) r p.1 p.2).bind _
     rw[goH_app r m,show i+(x::r).length=i+1+r.length from by rw[lc1];omega]
theorem gs_eq{h:List Int}{i:Nat}{v:Int}(hi:i<h.length):(h.set i v).getD i 0=v:=by
 rw[List.getD_eq_getElem?_getD,List.getElem?_set_self hi];rfl
theorem gs_ne{h:List Int}{i j:Nat}{v:Int}(hi:i≠j):(h.set i v).getD j 0=h.getD j 0:=by
 rw[List.getD_eq_getElem?_getD,List.getElem?_set_ne hi,←List.getD_eq_getElem?_getD]
theorem step1{L:Nat}{h:List Int}{top m:Int}{i:Nat}{x:Ins}(hl:h.length=L+1)(hi:i<L)(ho:1≤x.op∧x.op≤34)(hj:(tgt x).isSome=false)(h27:x.op≠27∧x.op≠34)
    (hm:max (h.getD i 0) 0=m) (hp:mvP x≤m) (hn:okH (h.getD (i+1) 0) (m-mvP x+mvQ x)):
    ∃h',stepH h top i x=some (h',max (max top m) (m-mvP x+mvQ x))∧h'.length=L+1∧h'.getD i 0=m∧h'.getD (i+1) 0=m-mvP x+mvQ x∧∀j,j≠i→j≠i+1→h'.getD j 0=h.getD j 0:=by
 obtain⟨ep,eq⟩:=moves_eq ho.1 ho.2
 refine⟨(h.set i m).set (i+1) (m-mvP x+mvQ x),?_,by rw[List.length_set,List.length_set];exact hl,?_,?_,?_⟩
 · unfold stepH nextH jumpH aftH
   simp only[hm,ep,eq]
   rw[if_neg om,if_pos om,gs_ne om,if_pos hn]
   simp only[Option.bind_some]
   rw[if_neg (by rw[hj];exact Bool.false_ne_true)]
   rfl
 ·rw[gs_ne om,gs_eq om]
 ·rw[gs_eq (by rw[List.length_set];omega)]
 · intro j h1 h2
   rw[gs_ne (fun e=>h2 e.symm),gs_ne (fun e=>h1 e.symm)]
theorem step2{L:Nat}{h:List Int}{top m:Int}{i t:Nat}{x:Ins}(hl:h.length=L+1)(hi:i<L)(ht:i<t∧t≤L)(ho:1≤x.op∧x.op≤34)(hj:tgt x=some ((t:Nat):Int))(h27:x.op≠27∧x.op≠34)
    (hm:max (h.getD i 0) 0=m) (hp:mvP x=m) (hq:mvQ x=0) (hn:h.getD (i+1) 0=-1∨h.getD (i+1) 0=0) (hk:h.getD t 0=-1∨h.getD t 0=0):
    ∃h',stepH h top i x=some (h',max (max top m) 0)∧h'.length=L+1∧h'.getD i 0=m∧h'.getD (i+1) 0=0∧h'.getD t 0=0∧∀j,j≠i→j≠i+1→j≠t→h'.getD j 0=h.getD j 0:=by
 obtain⟨ep,eq⟩:=moves_eq ho.1 ho.2
 refine⟨((h.set i m).set (i+1) 0).set t 0,?_,by rw[List.length_set,List.length_set,List.length_set];exact hl,?_,?_,?_,?_⟩
 · unfold stepH nextH jumpH aftH
   simp only[hm,ep,eq,hp,hq,hj]
   rw[show m-m+0=0 from by omega,if_neg om,if_pos om,gs_ne om,if_pos (by unfold okH;omega)]
   simp only[Option.bind_some,Option.isSome_some,if_true,Option.getD_some,Int.toNat_natCast]
   have:okH (((h.set i m).set (i+1) 0).getD t 0) 0:=by
    by_cases e:t=i+1
    ·subst e;rw[gs_eq (by rw[List.length_set];omega)];unfold okH;omega
    ·rw[gs_ne (fun h=>e h.symm),gs_ne om];unfold okH;omega
   rw[if_pos this]
   rfl
 ·rw[gs_ne om,gs_ne om,gs_eq om]
 · by_cases e:t=i+1
   ·subst e;rw[gs_eq (by rw[List.length_set,List.length_set];omega)]
   ·rw[gs_ne e,gs_eq (by rw[List.length_set];omega)]
 ·rw[gs_eq (by rw[List.length_set,List.length_set];omega)]
 · intro j h1 h2 h3
   rw[gs_ne (fun e=>h3 e.symm),gs_ne (fun e=>h2 e.symm),gs_ne (fun e=>h1 e.symm)]
theorem step3{L:Nat}{h:List Int}{top:Int}{i t:Nat}(hl:h.length=L+1)(hi:i<L)(ht:t≠i∧t≤L)(hm:h.getD i 0=-1∨h.getD i 0=0)(hk:h.getD t 0=-1∨h.getD t 0=0):
    ∃h',stepH h top i ⟨27,((t:Nat):Int),0,0⟩=some (h',max (max top 0) 0)∧h'.length=L+1∧h'.getD i 0=0∧h'.getD t 0=0∧∀j,j≠i→j≠t→h'.getD j 0=h.getD j 0:=by
 obtain⟨ep,eq⟩:=moves_eq (x:=⟨27,((t:Nat):Int),0,0⟩) (show 1≤27 by decide) (show 27≤34 by decide)
 have hm0:max (h.getD i 0) 0=0:=om
 refine⟨(h.set i 0).set t 0,?_,by rw[List.length_set,List.length_set];exact hl,?_,?_,?_⟩
 · unfold stepH nextH jumpH aftH
   simp only[hm0,ep,eq]
   rw[show mvP ⟨27,((t:Nat):Int),0,0⟩=0 from rfl,show mvQ ⟨27,((t:Nat):Int),0,0⟩=0 from rfl,show tgt ⟨27,((t:Nat):Int),0,0⟩=some ((t:Nat):Int)from rfl]
   rw[if_neg om,if_neg om]
   simp only[Option.bind_some,Option.isSome_some,if_true,Option.getD_some,Int.toNat_natCast]
   have:okH ((h.set i 0).getD t 0) (0-0+0):=by rw[gs_ne (fun e=>ht.1 e.symm)];unfold okH;omega
   rw[if_pos this]
   rfl
 ·rw[gs_ne ht.1,gs_eq om]
 ·rw[gs_eq (by rw[List.length_set];omega)]
 · intro j h1 h2
   rw[gs_ne (fun e=>h2 e.symm),gs_ne (fun e=>h1 e.symm)]
theorem step4{L:Nat}{h:List Int}{top:Int}{i:Nat}(hl:h.length=L+1)(hi:i<L)(hm:h.getD i 0=-1∨h.getD i 0=0):
    ∃h',stepH h top i ⟨34,0,0,0⟩=some (h',max (max top 0) 0)∧h'.length=L+1∧h'.getD i 0=0∧∀j,j≠i→h'.getD j 0=h.getD j 0:=by
 obtain⟨ep,eq⟩:=moves_eq (x:=⟨34,0,0,0⟩) (by decide) (by decide)
 have hm0:max (h.getD i 0) 0=0:=om
 refine⟨h.set i 0,?_,by rw[List.length_set];exact hl,gs_eq om,fun j h1=>gs_ne (fun e=>h1 e.symm)⟩
 unfold stepH nextH jumpH aftH
 simp only[hm0,ep,eq]
 rw[show mvP ⟨34,0,0,0⟩=0 from rfl,show mvQ ⟨34,0,0,0⟩=0 from rfl,show tgt ⟨34,0,0,0⟩=none from rfl,if_neg om,if_neg om]
 rfl
inductive WfE:Nat→PE→Prop
 |leaf (d op:Nat) (s:ByteArray) (n:Int) (h:(1≤op∧op≤5)∨op=8):WfE d ⟨op,s,n,[]⟩
 |un (d op:Nat) (s:ByteArray) (n:Int) (a:PE) (h:op=6∨op=7∨op=9∨op=10) (ha:WfE d a):WfE (d+1) ⟨op,s,n,[a]⟩
 |bin (d op:Nat) (s:ByteArray) (n:Int) (a b:PE) (h:11≤op∧op≤23) (ha:WfE d a) (hb:WfE d b):WfE (d+1) ⟨op,s,n,[a,b]⟩
theorem WfE.up{d d':Nat}{e:PE}(h:WfE d e)(hd:d≤d'):WfE d' e:=by
 induction h generalizing d' with
 |leaf d op s n h=>exact .leaf _ _ _ _ h
 |un d op s n a h _ ih=>obtain⟨k,rfl⟩:∃k,d'=k+1:=⟨d'-1,by omega⟩;exact .un _ _ _ _ _ h (ih om)
 |bin d op s n a b h _ _ iha ihb=>obtain⟨k,rfl⟩:∃k,d'=k+1:=⟨d'-1,by omega⟩;exact .bin _ _ _ _ _ _ h (iha om) (ihb om)
theorem IntE.wf{c:Ct}{np d:Nat}{e:PE}(h:IntE c np d e):WfE d e:=by
 induction h with
 |num d n h=>exact .leaf _ _ _ _ om
 |var d k h=>exact .leaf _ _ _ _ om
 |par d k h=>exact .leaf _ _ _ _ om
 |now d=>exact .leaf _ _ _ _ om
 |get d e ht h ih=>exact .un _ _ _ _ _ om ih
 |size d ht=>exact .leaf _ _ _ _ om
 |neg d e h ih=>exact .un _ _ _ _ _ om ih
 |bin d op a b ho ha hb iha ihb=>exact .bin _ _ _ _ _ _ om iha ihb
theorem TruE.wf{c:Ct}{np d:Nat}{e:PE}(h:TruE c np d e):WfE (d+3) e:=by
 induction h with
 |tf d op h=>exact .leaf _ _ _ _ om
 |b0 d=>exact .leaf _ _ _ _ om
 |flag d k h=>exact .leaf _ _ _ _ om
 |has d e ht h=>exact .un _ _ _ _ _ om (h.wf.up om)
 |not d e h ih=>exact .un _ _ _ _ _ om ih
 |two d op a b ho ha hb iha ihb=>exact .bin _ _ _ _ _ _ om iha ihb
 |cmp d op a b ho ha hb=>exact .bin _ _ _ _ _ _ om (ha.wf.up om) (hb.wf.up om)
def Cc.Loads(c:Cc):Prop:=∀s,2≤(c.pn s).op∧(c.pn s).op≤4
theorem opI_moves{c:Cc}(hc:c.Loads){op:Nat}(s:ByteArray)(n:Int)(h:1≤op∧op≤23):
    (1≤(opI c op s n).op∧(opI c op s n).op≤23)∧mvP (opI c op s n)=(if op≤5∨op=8 then 0 else if op≤10 then 1 else 2)∧mvQ (opI c op s n)=1:=by
 have hs:=hc s
 unfold opI
 by_cases h1:op=1
 ·rw[if_pos h1,if_pos om];exact⟨⟨Nat.le_refl 1,(show 1≤23 by decide)⟩,rfl,rfl⟩
 rw[if_neg h1]
 by_cases h2:op=2
 ·rw[if_pos h2,if_pos om];exact⟨by decide,rfl,rfl⟩
 rw[if_neg h2]
 by_cases h3:op=3
 ·rw[if_pos h3,if_pos om];exact⟨by decide,rfl,rfl⟩
 rw[if_neg h3]
 by_cases h4:op=4
 ·rw[if_pos h4,if_pos om];exact⟨by decide,rfl,rfl⟩
 rw[if_neg h4]
 by_cases h5:op=5
 ·rw[if_pos h5,if_pos om];unfold mvP mvQ;rw[if_pos om,if_pos om];exact⟨by omega,rfl,rfl⟩
 rw[if_neg h5]
 have e:∀a:Int,mvP ⟨op,a,0,0⟩=(if op≤5∨op=8 then 0 else if op≤10 then 1 else 2)∧mvQ ⟨op,a,0,0⟩=1:=fun a=>by
  unfold mvP mvQ
  refine⟨?_,if_pos (by show((op:Nat):Int)≤23;omega)⟩
  show(if((op:Nat):Int)≤5∨((op:Nat):Int)=8 then(0:Int)else if((op:Nat):Int)≤10 then 1 else if((op:Nat):Int)≤23 then 2 else _)=_
  by_cases g1:op≤5∨op=8
  ·rw[if_pos g1,if_pos om]
  · rw[if_neg g1,if_neg om]
    by_cases g2:op≤10
    ·rw[if_pos g2,if_pos om]
    ·rw[if_neg g2,if_neg om,if_pos om]
 by_cases h6:op=6∨op=7∨op=8
 ·rw[if_pos h6];exact⟨by show 1≤op∧op≤23;omega,e _⟩
 ·rw[if_neg h6];exact⟨by show 1≤op∧op≤23;omega,e _⟩
theorem tgt_low{x:Ins}(h:x.op≤26∨x.op=29∨x.op=30∨x.op=31):(tgt x).isSome=false:=by
 unfold tgt;rw[if_neg om,if_neg om];rfl
def Ups(L i n:Nat)(k b:Int)(l:List Ins):Prop:=∀(h:List Int) (top v:Int),h.length=L+1→i+n≤L→max (h.getD i 0) 0=v→(∀j,i<j→j≤i+n→h.getD j 0=-1)→
 ∃h' top',goH i l h top=some (h',top')∧h'.length=L+1∧max (h'.getD (i+n) 0) 0=v+k∧(∀j,i+n<j→h'.getD j 0=h.getD j 0)∧(∀j,j<i→h'.getD j 0=h.getD j 0)∧(0<n→h'.getD i 0=v)∧top≤top'∧top'≤max top (v+b)
theorem Ups.nil(L i:Nat){b:Int}:Ups L i 0 0 b []:=fun h top v hl hi hm hj=>⟨h,top,rfl,hl,by rw[Nat.add_zero,hm];omega,fun j _=>rfl,fun j _=>rfl,fun h=>absurd h om,Int.le_refl _,by omega⟩
theorem Ups.app{L i n n':Nat}{k k' b b' c:Int}{l m:List Ins}(h1:Ups L i n k b l)(hn:l.length=n)(h2:Ups L (i+n) n' k' b' m)(hk:0≤k)(hb:b≤c)(hb':k+b'≤c):Ups L i (n+n') (k+k') c (l++m):=fun h top v hl hi hm hj=>by
 obtain⟨h',top',e,hl',hm',ha,hb1,hc,ht,ht'⟩:=h1 h top v hl om hm (fun j a b=>hj j a om)
 obtain⟨h'',top'',e',hl'',hm'',ha',hb2,hc',ht2,ht2'⟩:=h2 h' top' (v+k) hl' om hm' (fun j a b=>by rw[ha j a];exact hj j om om)
 refine⟨h'',top'',by rw[goH_app,e,hn];exact e',hl'',by rw[←Nat.add_assoc,hm''];omega,fun j hj'=>by rw[ha' j om,ha j om],fun j hj'=>by rw[hb2 j om,hb1 j hj'],fun h0=>?_,by omega,by omega⟩
 by_cases hz:0<n
 ·rw[hb2 i om];exact hc hz
 · have e0:n=0:=om
   subst e0
   have hk0:l=[]:=List.eq_nil_of_length_eq_zero hn
   subst hk0
   have hh:h'=h:=by injection e with e;injection e with e1 e2;exact e1.symm
   subst hh
   have hz:v+k=v:=by rw[Nat.add_zero]at hm';omega
   rw[←hz];exact hc' om
theorem Ups.one{L i:Nat}{x:Ins}{b:Int}(ho:1≤x.op∧x.op≤23)(p:Nat)(hq:mvQ x=1)(hb:1≤b):
    ∀(h:List Int) (top v:Int),mvP x=p→h.length=L+1→i+1≤L→max (h.getD i 0) 0=v+p→0≤v→h.getD (i+1) 0=-1→
     ∃h' top',goH i [x] h top=some (h',top')∧h'.length=L+1∧max (h'.getD (i+1) 0) 0=v+1∧(∀j,i+1<j→h'.getD j 0=h.getD j 0)∧(∀j,j<i→h'.getD j 0=h.getD j 0)∧h'.getD i 0=v+p∧top≤top'∧top'≤max top (max (v+p) (v+1)):=fun h top v hp hl hi hm hv hj=>by
 obtain⟨h',e,hl',a,b',c⟩:=step1 (top:=top) hl om ⟨ho.1,by omega⟩ (tgt_low (.inl om)) ⟨by omega,by omega⟩ hm om (by rw[hj];unfold okH;omega)
 refine⟨h',_,by unfold goH;rw[e];rfl,hl',?_,fun j hj=>c j om om,fun j hj=>c j om om,a,by omega,by rw[hp,hq];omega⟩
 rw[b',hp,hq];omega
theorem cE_ups{c:Cc}(hc:c.Loads){d:Nat}{e:PE}(h:WfE d e):∀L i,Ups L i (cE c e).length 1 (d+1) (cE c e):=by
 induction h with
 | leaf d op s n h=>
   intro L i
   obtain⟨ho,hp,hq⟩:=opI_moves hc s n (op:=op) om
   rw[if_pos om]at hp
   intro h' top v hl hi hm hj
   obtain⟨h2,t2,e1,e2,e3,e4,e5,e6,e7,e8⟩:=Ups.one (b:=1) ho 0 hq om h' top v (by rw[hp];rfl) hl hi (by rw[hm];omega) om (hj _ om (Nat.le_refl _))
   exact⟨h2,t2,e1,e2,e3,e4,e5,fun _=>by rw[e6];omega,e7,by omega⟩
 | un d op s n a h ha ih=>
   intro L i
   obtain⟨ho,hp,hq⟩:=opI_moves hc s n (op:=op) om
   rw[if_neg om,if_pos om]at hp
   have e0:cE c ⟨op,s,n,[a]⟩=cE c a++[opI c op s n]:=by show(cE c a++[])++_=_;rw[List.append_nil]
   rw[e0,lap]
   intro h' top v hl hi hm hj
   have hi':i+((cE c a).length+1)≤L:=hi
   obtain⟨h1,t1,f1,f2,f3,f4,f5,f6,f7,f8⟩:=ih L i h' top v hl om hm (fun j x y=>hj j x (by show j≤i+((cE c a).length+1);omega))
   obtain⟨h2,t2,e1,e2,e3,e4,e5,e6,e7,e8⟩:=Ups.one (L:=L) (i:=i+(cE c a).length) (b:=1) ho 1 hq om h1 t1 v (by rw[hp];rfl) f2 om (by rw[f3];rfl) om (by rw[f4 _ om];exact hj _ om (by show _≤i+((cE c a).length+1);omega))
   refine⟨h2,t2,by rw[goH_app,f1];exact e1,e2,e3,fun j hj=>?_,fun j hj=>by rw[e5 j om,f5 j hj],fun _=>?_,by omega,by omega⟩
   · have hj:i+((cE c a).length+1)<j:=hj
     rw[e4 j om,f4 j om]
   · by_cases hz:0<(cE c a).length
     ·rw[e5 i om];exact f6 hz
     · exfalso
       have:(cE c a).length=0:=om
       cases a with
       |mk o2 s2 n2 l2=>rw[show cE c ⟨o2,s2,n2,l2⟩=cEs c l2++[opI c o2 s2 n2]from rfl,lap]at this;simp at this
 | bin d op s n a b h ha hb iha ihb=>
   intro L i
   obtain⟨ho,hp,hq⟩:=opI_moves hc s n (op:=op) om
   rw[if_neg om,if_neg om]at hp
   have e0:cE c ⟨op,s,n,[a,b]⟩=(cE c a++cE c b)++[opI c op s n]:=by show(cE c a++(cE c b++[]))++_=_;rw[List.append_nil]
   rw[e0,lap]
   intro h' top v hl hi hm hj
   have hi':i+((cE c a++cE c b).length+1)≤L:=hi
   have hab:=Ups.app (c:=d+2) (iha L i) rfl (ihb L (i+(cE c a).length)) om om om
   rw[←lap]at hab
   obtain⟨h1,t1,f1,f2,f3,f4,f5,f6,f7,f8⟩:=hab h' top v hl om hm (fun j x y=>hj j x (by show j≤i+((cE c a++cE c b).length+1);omega))
   obtain⟨h2,t2,e1,e2,e3,e4,e5,e6,e7,e8⟩:=Ups.one (L:=L) (i:=i+(cE c a++cE c b).length) (b:=1) ho 2 hq om h1 t1 v (by rw[hp];rfl) f2 om (by rw[f3];rfl) om (by rw[f4 _ om];exact hj _ om (by show _≤i+((cE c a++cE c b).length+1);omega))
   refine⟨h2,t2,by rw[goH_app,f1];exact e1,e2,e3,fun j hj=>?_,fun j hj=>by rw[e5 j om,f5 j hj],fun _=>?_,by omega,by omega⟩
   · have hj:i+((cE c a++cE c b).length+1)<j:=hj
     rw[e4 j om,f4 j om]
   · by_cases hz:0<(cE c a++cE c b).length
     ·rw[e5 i om];exact f6 hz
     · exfalso
       have:(cE c a++cE c b).length=0:=om
       cases a with
       |mk o2 s2 n2 l2=>rw[show cE c ⟨o2,s2,n2,l2⟩=cEs c l2++[opI c o2 s2 n2]from rfl]at this;simp at this
theorem cEs_ups{c:Cc}(hc:c.Loads){d:Nat}:∀(l:List PE),(∀e∈l,WfE d e)→∀L i,Ups L i (cEs c l).length l.length (l.length+d) (cEs c l)
 |[],_,L,i=>Ups.nil L i
 | e::r,h,L,i=>by
   show Ups L i (cE c e++cEs c r).length _ _ (cE c e++cEs c r)
   rw[lap]
   have:=Ups.app (c:=((e::r).length:Int)+d) (cE_ups hc (h e (List.mem_cons_self ..)) L i) rfl (cEs_ups hc r (fun x hx=>h x (List.mem_cons_of_mem _ hx)) L (i+(cE c e).length)) om (by rw[lc1];omega) (by rw[lc1];omega)
   rw[show((e::r).length:Int)=1+(r.length:Int)from by rw[lc1];omega]at this⊢
   exact this
def Zr(h:List Int)(j:Nat):Prop:=h.getD j 0=-1∨h.getD j 0=0
structure Pre(L:Nat)(h:List Int)(p n:Nat):Prop where
 len:h.length=L+1
 le:p+n≤L
 at0:Zr h p
 mid:∀j,p<j→j<p+n→h.getD j 0=-1
 fin:Zr h (p+n)
structure Pst(L:Nat)(h h':List Int)(p n:Nat):Prop where
 len:h'.length=L+1
 fin:Zr h' (p+n)
 hi:∀j,p+n<j→h'.getD j 0=h.getD j 0
 lo:∀j,j<p→h'.getD j 0=h.getD j 0
 at0:0<n→h'.getD p 0=0
def Blk(L p:Nat)(l:List Ins):Prop:=∀h top,0≤top→Pre L h p l.length→∃h' top',goH p l h top=some (h',top')∧Pst L h h' p l.length∧top≤top'∧top'≤max top 10
theorem Zr.of{h h':List Int}{j:Nat}(e:h'.getD j 0=h.getD j 0)(z:Zr h j):Zr h' j:=by unfold Zr at*;rw[e];exact z
theorem Blk.nil(L p:Nat):Blk L p []:=fun h top ht hp=>⟨h,top,rfl,⟨hp.len,hp.fin,fun _ _=>rfl,fun _ _=>rfl,fun h=>absurd h (by decide)⟩,Int.le_refl _,by omega⟩
theorem Blk.app{L p:Nat}{l m:List Ins}(h1:Blk L p l)(h2:Blk L (p+l.length) m):Blk L p (l++m):=fun h top ht hp=>by
 have hn:(l++m).length=l.length+m.length:=lap
 have le:=hp.le
 have mid:=hp.mid
 have fin:=hp.fin
 rw[hn]at le mid fin⊢
 have q1:Pre L h p l.length:=⟨hp.len,by omega,hp.at0,fun j a b=>mid j a om,by
  by_cases z:l.length=0
  ·rw[z];exact hp.at0
  by_cases z2:m.length=0
  ·rw[z2]at fin;exact fin
  exact .inl (mid _ om om)⟩
 obtain⟨h',t',e1,s1,a1,b1⟩:=h1 h top ht q1
 have q2:Pre L h' (p+l.length) m.length:=⟨s1.len,by omega,s1.fin,fun j a b=>by rw[s1.hi j a];exact mid j om om,by
  by_cases z:m.length=0
  ·rw[z];exact s1.fin
  · refine Zr.of (s1.hi _ om) ?_
    rw[Nat.add_assoc];exact fin⟩
 obtain⟨h'',t'',e2,s2,a2,b2⟩:=h2 h' t' om q2
 refine⟨h'',t'',by rw[goH_app,e1];exact e2,⟨s2.len,by rw[←Nat.add_assoc];exact s2.fin,fun j hj=>by rw[s2.hi j om,s1.hi j om],fun j hj=>by rw[s2.lo j om,s1.lo j hj],fun hz=>?_⟩,by omega,by omega⟩
 by_cases z:0<l.length
 ·rw[s2.lo p om];exact s1.at0 z
 · have z0:l.length=0:=om
   rw[z0]at s2
   exact s2.at0 om
def hdC(c:Cc)(es:List PE):List Ins:=(⟨29,0,0,0⟩:Ins)::cEs c es
theorem cost_ups(L i:Nat):Ups L i 1 0 0 [⟨29,0,0,0⟩]:=fun h top v hl hi hm hj=>by
 obtain⟨h',e,hl',a,b,c⟩:=step1 (top:=top) (x:=⟨29,0,0,0⟩) hl om (by decide) rfl (by decide) hm (show(0:Int)≤v by omega) (by rw[hj _ om (Nat.le_refl _)];unfold okH;omega)
 refine⟨h',_,by unfold goH;rw[e];rfl,hl',?_,fun j hj=>c j om om,fun j hj=>c j om om,fun _=>a,by omega,?_⟩
 ·rw[b];show max (v-0+0) 0=v+0;omega
 ·show max (max top v) (v-0+0)≤max top (v+0);omega
theorem hd_ups{c:Cc}(hc:c.Loads){d:Nat}{es:List PE}(h:∀e∈es,WfE d e)(L i:Nat):Ups L i (hdC c es).length es.length (es.length+d) (hdC c es):=by
 have:=Ups.app (c:=(es.length:Int)+d) (cost_ups L i) rfl (cEs_ups hc es h L (i+1)) om om om
 rw[show(hdC c es).length=1+(cEs c es).length from by show(cEs c es).length+1=_;omega]
 rw[show(0:Int)+(es.length:Int)=es.length from by omega]at this
 exact this
theorem hd_go{c:Cc}(hc:c.Loads){es:List PE}(h:∀e∈es,WfE 5 e)(hn:es.length≤5){L p n:Nat}{hs:List Int}{top:Int}(ht:0≤top)(hp:Pre L hs p n)(hx:(hdC c es).length<n):
    ∃h' top',goH p (hdC c es) hs top=some (h',top')∧h'.length=L+1∧max (h'.getD (p+(hdC c es).length) 0) 0=es.length∧(∀j,p+(hdC c es).length<j→h'.getD j 0=hs.getD j 0)∧(∀j,j<p→h'.getD j 0=hs.getD j 0)∧h'.getD p 0=0∧top≤top'∧top'≤max top 10:=by
 have le:=hp.le
 obtain⟨h',t',e1,e2,e3,e4,e5,e6,e7,e8⟩:=hd_ups hc h L p hs top 0 hp.len om (by have:=hp.at0;unfold Zr at this;omega) (fun j a b=>hp.mid j a om)
 exact⟨h',t',e1,e2,by rw[e3];omega,e4,e5,e6 (by show 0<(cEs c es).length+1;omega),e7,by omega⟩
theorem blk_one{c:Cc}(hc:c.Loads){es:List PE}(h:∀e∈es,WfE 5 e)(hn:es.length≤5){y:Ins}(ho:1≤y.op∧y.op≤34)(hj:(tgt y).isSome=false)(h27:y.op≠27∧y.op≠34)(hp:mvP y=es.length)(hq:mvQ y=0)(L p:Nat):Blk L p (hdC c es++[y]):=fun hs top ht pre=>by
 have hl:(hdC c es++[y]).length=(hdC c es).length+1:=by rw[lap];rfl
 rw[hl]at pre⊢
 obtain⟨h1,t1,e1,e2,e3,e4,e5,e6,e7,e8⟩:=hd_go hc h hn ht pre om
 have fin:=pre.fin
 have le:=pre.le
 obtain⟨h2,f1,f2,f3,f4,f5⟩:=step1 (top:=t1) (i:=p+(hdC c es).length) e2 om ho hj h27 e3 om (by rw[hp,hq,e4 _ om];unfold okH;unfold Zr at fin;rw[←Nat.add_assoc]at fin;omega)
 refine⟨h2,_,by rw[goH_app,e1];show goH _ [y] h1 t1=_;unfold goH;rw[f1];rfl,⟨f2,?_,fun j hj=>?_,fun j hj=>?_,fun _=>?_⟩,by omega,by rw[hp,hq];omega⟩
 ·right;rw[←Nat.add_assoc,f4,hp,hq];omega
 ·rw[f5 j om om,e4 j om]
 ·rw[f5 j om om,e5 j hj]
 ·rw[f5 p (by show p≠p+((cEs c es).length+1);omega) om];exact e6
theorem hd_jump{c:Cc}(hc:c.Loads){es:List PE}(h:∀e∈es,WfE 5 e)(hn:es.length≤5){y:Ins}{L p n t:Nat}(ho:1≤y.op∧y.op≤34)(hj:tgt y=some ((t:Nat):Int))(h27:y.op≠27∧y.op≠34)(hp:mvP y=es.length)(hq:mvQ y=0)
    {hs:List Int} {top:Int} (ht:0≤top) (pre:Pre L hs p n) (hx:(hdC c es).length+1≤n) (hlo:p+(hdC c es).length<t) (hhi:t≤p+n):
    ∃h' top',goH p (hdC c es++[y]) hs top=some (h',top')∧h'.length=L+1∧h'.getD (p+(hdC c es).length+1) 0=0∧h'.getD t 0=0∧(∀j,p+(hdC c es).length+1<j→j≠t→h'.getD j 0=hs.getD j 0)∧(∀j,j<p→h'.getD j 0=hs.getD j 0)∧h'.getD p 0=0∧top≤top'∧top'≤max top 10:=by
 obtain⟨h1,t1,e1,e2,e3,e4,e5,e6,e7,e8⟩:=hd_go hc h hn ht pre om
 have fin:=pre.fin
 have le:=pre.le
 have zz:∀j,p+(hdC c es).length<j→j≤p+n→h1.getD j 0=-1∨h1.getD j 0=0:=fun j a b=>by
  rw[e4 j a]
  by_cases z:j=p+n
  ·rw[z];exact fin
  ·exact .inl (pre.mid j om om)
 obtain⟨h2,f1,f2,f3,f4,f5,f6⟩:=step2 (top:=t1) (i:=p+(hdC c es).length) (t:=t) e2 om ⟨hlo,by omega⟩ ho hj h27 e3 hp hq (zz _ om om) (zz _ hlo hhi)
 refine⟨h2,_,by rw[goH_app,e1];show goH _ [y] h1 t1=_;unfold goH;rw[f1];rfl,f2,f4,f5,fun j a b=>by rw[f6 j om om b,e4 j om],fun j a=>by rw[f6 j om om om,e5 j a],?_,by omega,by omega⟩
 rw[f6 p (by show p≠p+((cEs c es).length+1);omega) om om];exact e6
theorem ovr_go{L r:Nat}{e:List Ins}{b:Bool}(he:b=false→Blk L (r+1) e){h:List Int}{top:Int}(ht:0≤top)(hl:h.length=L+1)(le:r+(ovr r e b).length≤L)(h0:Zr h r)(h1:b=false→Zr h (r+1))
    (mid:∀j,r+1<j→j<r+(ovr r e b).length→h.getD j 0=-1) (fin:Zr h (r+(ovr r e b).length)):
    ∃h' top',goH r (ovr r e b) h top=some (h',top')∧Pst L h h' r (ovr r e b).length∧top≤top'∧top'≤max top 10:=by
 cases b with
 |true=>exact⟨h,top,rfl,⟨hl,h0,fun _ _=>rfl,fun _ _=>rfl,fun h=>absurd h (Nat.lt_irrefl 0)⟩,Int.le_refl _,by omega⟩
 | false=>
   have hn:(ovr r e false).length=e.length+1:=rfl
   rw[hn]at le mid fin⊢
   obtain⟨h2,f1,f2,f3,f4,f5⟩:=step3 (top:=top) (i:=r) (t:=r+1+e.length) hl om ⟨by omega,by omega⟩ h0 (by unfold Zr at fin;rw[show r+1+e.length=r+(e.length+1) by omega];exact fin)
   have q:Pre L h2 (r+1) e.length:=⟨f2,by omega,by
    by_cases z:e.length=0
    ·right;rw[show r+1=r+1+e.length by omega];exact f4
    ·exact Zr.of (f5 _ om om) (h1 rfl),fun j a b=>by rw[f5 j om om];exact mid j a om, .inr f4⟩
   obtain⟨h3,t3,e1,s3,a3,b3⟩:=he rfl h2 (max (max top 0) 0) om q
   refine⟨h3,t3,?_,⟨s3.len,by rw[show r+(e.length+1)=r+1+e.length by omega];exact s3.fin,fun j hj=>by rw[s3.hi j om,f5 j om om],fun j hj=>by rw[s3.lo j om,f5 j om om],fun _=>by rw[s3.lo r om];exact f3⟩,by omega,by omega⟩
   show goH r (⟨27,((r+1+e.length:Nat):Int),0,0⟩::e) h top=_
   unfold goH
   rw[f1]
   exact e1
inductive WfS:PS→Prop
 |one (k:Nat) (s h:ByteArray) (es:List PE) (hk:(k=1∧es.length=1)∨(k=2∧es.length=2)∨(k=3∧es.length=1)∨(k=6∧es.length≤4)∨(k=7∧1≤es.length∧es.length≤5)) (he:∀e∈es,WfE 5 e):WfS ⟨k,s,h,es,[],[]⟩
 |ife (s h:ByteArray) (a:PE) (t e:List PS) (ha:WfE 5 a) (ht:∀x∈t,WfS x) (he:∀x∈e,WfS x):WfS ⟨4,s,h,[a],t,e⟩
 |whl (s h:ByteArray) (a:PE) (t:List PS) (ha:WfE 5 a) (ht:∀x∈t,WfS x):WfS ⟨5,s,h,[a],t,[]⟩
 |sto (s h:ByteArray) (a b:PE) (e:List PS) (ha:WfE 5 a) (hb:WfE 5 b) (he:∀x∈e,WfS x):WfS ⟨8,s,h,[a,b],[],e⟩
 |fet (s h:ByteArray) (a:PE) (e:List PS) (ha:WfE 5 a) (he:∀x∈e,WfS x):WfS ⟨9,s,h,[a],[],e⟩
 |stop (s h:ByteArray):WfS ⟨10,s,h,[],[],[]⟩
theorem one1{P:PE→Prop}{a:PE}(h:P a):∀e∈[a],P e:=fun e he=>by rw[List.mem_singleton.1 he];exact h
theorem two2{P:PE→Prop}{a b:PE}(h:P a)(k:P b):∀e∈[a,b],P e:=fun e he=>by
 rcases List.mem_cons.1 he with rfl|he
 ·exact h
 ·rw[List.mem_singleton.1 he];exact k
theorem cB_blk{c:Cc}{L:Nat}:∀(l:List PS) (p:Nat),(∀s∈l,∀p,Blk L p (cS c s p))→Blk L p (cB c l p)
 |[],p,_=>Blk.nil L p
 |s::r,p,h=>Blk.app (h s (List.mem_cons_self ..) p) (cB_blk r _ fun x hx=>h x (List.mem_cons_of_mem _ hx))
theorem store_blk{c:Cc}(hc:c.Loads){es:List PE}(h:∀e∈es,WfE 5 e)(hn:es.length≤5){L p:Nat}{e:List PS}{y:Ins}(ho:1≤y.op∧y.op≤34)(hj:tgt y=some ((p+(hdC c es).length+1+(if e.isEmpty then 0 else 1):Nat):Int))(h27:y.op≠27∧y.op≠34)(hp:mvP y=es.length)(hq:mvQ y=0)
    (ih:∀s∈e,∀p,Blk L p (cS c s p)):Blk L p (hdC c es++y::ovr (p+(hdC c es).length+1) (cB c e (p+(hdC c es).length+1+1)) e.isEmpty):=fun hs top ht pre=>by
 obtain⟨r,hr⟩:∃r,p+(hdC c es).length+1=r:=⟨_,rfl⟩
 obtain⟨o,ho2⟩:∃o,ovr r (cB c e (r+1)) e.isEmpty=o:=⟨_,rfl⟩
 rw[hr]at hj⊢
 rw[hr]at pre
 rw[ho2]at pre⊢
 have hlen:(hdC c es++y::o).length=(hdC c es).length+1+o.length:=by rw[lap,lc1];omega
 rw[hlen]at pre⊢
 have hol:e.isEmpty=false→1≤o.length:=fun hb=>by rw[←ho2,hb];show 1≤(cB c e (r+1)).length+1;omega
 have le:=pre.le
 obtain⟨h1,t1,e1,e2,e3,e4,e5,e6,e7,e8,e9⟩:=hd_jump (t:=r+(if e.isEmpty then 0 else 1)) hc h hn ho hj h27 hp hq ht pre om om (by
  cases hb:e.isEmpty with
  |true=>rw[if_pos rfl];omega
  |false=>rw[if_neg Bool.false_ne_true];have:=hol hb;omega)
 rw[hr]at e3 e5
 have z1:∀j,r<j→j<p+((hdC c es).length+1+o.length)→j≠r+(if e.isEmpty then 0 else 1)→h1.getD j 0=-1:=fun j a b d=>by rw[e5 j a d];exact pre.mid j om om
 have fin:Zr h1 (r+o.length):=by
  by_cases z:r+o.length=r+(if e.isEmpty then 0 else 1)
  ·rw[z];exact .inr e4
  · by_cases z2:o.length=0
    ·rw[z2];exact .inr e3
    · refine Zr.of (e5 _ om z) ?_
      rw[show r+o.length=p+((hdC c es).length+1+o.length) by omega];exact pre.fin
 obtain⟨h2,t2,f1,s2,f3,f4⟩:=ovr_go (L:=L) (r:=r) (e:=cB c e (r+1)) (b:=e.isEmpty) (h:=h1) (top:=t1) (fun _=>cB_blk e _ ih) om e2 (by rw[ho2];omega) (.inr e3) (fun hb=>by
  rw[hb,if_neg Bool.false_ne_true]at e4;exact .inr e4) (fun j a b=>by
   rw[ho2]at b
   refine z1 j om om ?_
   split<;>omega) (by rw[ho2];exact fin)
 rw[ho2]at f1 s2
 refine⟨h2,t2,?_,⟨s2.len,by rw[show p+((hdC c es).length+1+o.length)=r+o.length by omega];exact s2.fin,fun j hj=>?_,fun j hj=>by rw[s2.lo j om,e6 j hj],fun _=>?_⟩,by omega,by omega⟩
 · rw[show hdC c es++y::o=(hdC c es++[y])++o from by rw[List.append_assoc];rfl,goH_app,e1]
   show goH (p+(hdC c es++[y]).length) o h1 t1=_
   rw[lap,show p+((hdC c es).length+[y].length)=r from by show p+((hdC c es).length+1)=r;omega]
   exact f1
 · rw[s2.hi j om]
   by_cases z:j=r+(if e.isEmpty then 0 else 1)
   · exfalso
     cases hb:e.isEmpty with
     |true=>rw[hb,if_pos rfl]at z;omega
     |false=>rw[hb,if_neg Bool.false_ne_true]at z;have:=hol hb;omega
   ·exact e5 j om z
 ·rw[s2.lo p (by show p<r;rw[←hr];show p<p+((cEs c es).length+1)+1;omega)];exact e7
theorem okO(n:Nat)(h:1≤n∧n≤34:=by decide):1≤n∧n≤34:=h
theorem neO(n:Nat)(h:n≠27∧n≠34:=by decide):n≠27∧n≠34:=h
theorem if_blk{c:Cc}(hc:c.Loads){a:PE}(ha:WfE 5 a){L p:Nat}{t e:List PS}(iht:∀s∈t,∀p,Blk L p (cS c s p))(ihe:∀s∈e,∀p,Blk L p (cS c s p))(r:Nat)(hr:p+(hdC c [a]).length+1=r):
    Blk L p (hdC c [a]++⟨28,((r+(cB c t r).length+(if e.isEmpty then 0 else 1):Nat):Int),0,0⟩::(cB c t r++ovr (r+(cB c t r).length) (cB c e (r+(cB c t r).length+1)) e.isEmpty)):=fun hs top ht pre=>by
 obtain⟨B,hB⟩:∃B,cB c t r=B:=⟨_,rfl⟩
 have blkB:Blk L r B:=by rw[←hB];exact cB_blk t r iht
 rw[hB]at pre⊢
 clear hB
 obtain⟨q,hq⟩:∃q,r+B.length=q:=⟨_,rfl⟩
 rw[hq]at pre⊢
 obtain⟨o,ho2⟩:∃o,ovr q (cB c e (q+1)) e.isEmpty=o:=⟨_,rfl⟩
 rw[ho2]at pre⊢
 obtain⟨y,hy⟩:∃y:Ins,(⟨28,((q+(if e.isEmpty then 0 else 1):Nat):Int),0,0⟩:Ins)=y:=⟨_,rfl⟩
 rw[hy]at pre⊢
 have hlen:(hdC c [a]++y::(B++o)).length=(hdC c [a]).length+1+B.length+o.length:=by rw[lap,lc1,lap];omega
 rw[hlen]at pre⊢
 have hol:e.isEmpty=false→1≤o.length:=fun hb=>by rw[←ho2,hb];show 1≤(cB c e (q+1)).length+1;omega
 have le:=pre.le
 have hj2:q+(if e.isEmpty then 0 else 1)≤p+((hdC c [a]).length+1+B.length+o.length):=by
  cases hb:e.isEmpty with
  |true=>rw[if_pos rfl];omega
  |false=>rw[if_neg Bool.false_ne_true];have:=hol hb;omega
 obtain⟨h1,t1,e1,e2,e3,e4,e5,e6,e7,e8,e9⟩:=hd_jump (t:=q+(if e.isEmpty then 0 else 1)) (y:=y) hc (one1 ha) (by show 1≤5;omega) (by rw[←hy];exact okO 28) (by rw[←hy];rfl) (by rw[←hy];exact neO 28) (by rw[←hy];rfl) (by rw[←hy];rfl) ht pre om om hj2
 rw[hr]at e3 e5
 have z1:∀j,r<j→j<p+((hdC c [a]).length+1+B.length+o.length)→j≠q+(if e.isEmpty then 0 else 1)→h1.getD j 0=-1:=fun j a b d=>by rw[e5 j a d];exact pre.mid j om om
 have preB:Pre L h1 r B.length:=⟨e2,by omega, .inr e3,fun j a b=>z1 j a om (by split<;>omega),by
  by_cases z:r+B.length=q+(if e.isEmpty then 0 else 1)
  ·rw[z];exact .inr e4
  · by_cases z2:B.length=0
    ·rw[z2];exact .inr e3
    · have hb:e.isEmpty=false:=by
        cases hb:e.isEmpty with
        |true=>rw[hb,if_pos rfl]at z;omega
        |false=>rfl
      have:=hol hb
      exact .inl (z1 _ om om z)⟩
 obtain⟨h2,t2,f1,s2,f3,f4⟩:=blkB h1 t1 om preB
 have fin:Zr h2 (q+o.length):=by
  by_cases z2:o.length=0
  ·rw[z2,Nat.add_zero,←hq];exact s2.fin
  · refine Zr.of (s2.hi _ om) ?_
    by_cases z:q+o.length=q+(if e.isEmpty then 0 else 1)
    ·rw[z];exact .inr e4
    · refine Zr.of (e5 _ om z) ?_
      rw[show q+o.length=p+((hdC c [a]).length+1+B.length+o.length) by omega];exact pre.fin
 obtain⟨h3,t3,g1,s3,g3,g4⟩:=ovr_go (L:=L) (r:=q) (e:=cB c e (q+1)) (b:=e.isEmpty) (h:=h2) (top:=t2) (fun _=>cB_blk e _ ihe) om s2.len (by rw[ho2];omega) (by rw[←hq];exact s2.fin) (fun hb=>by
  refine Zr.of (s2.hi _ om) ?_
  rw[hb,if_neg Bool.false_ne_true]at e4;exact .inr e4) (fun j a b=>by
   rw[ho2]at b
   rw[s2.hi j om]
   exact z1 j om om (by split<;>omega)) (by rw[ho2];exact fin)
 rw[ho2]at g1 s3
 have hpr:p<r:=by rw[←hr];show p<p+((cEs c [a]).length+1)+1;omega
 refine⟨h3,t3,?_,⟨s3.len,by rw[show p+((hdC c [a]).length+1+B.length+o.length)=q+o.length by omega];exact s3.fin,fun j hj=>?_,fun j hj=>by rw[s3.lo j om,s2.lo j om,e6 j hj],fun _=>?_⟩,by omega,by omega⟩
 · rw[show hdC c [a]++y::(B++o)=((hdC c [a]++[y])++B)++o from by rw[List.append_assoc,List.append_assoc];rfl,goH_app,goH_app,e1]
   show(goH (p+(hdC c [a]++[y]).length) B h1 t1).bind _=_
   have hl1:(hdC c [a]++[y]).length=(hdC c [a]).length+1:=by rw[lap];rfl
   rw[hl1,show p+((hdC c [a]).length+1)=r by omega,f1]
   show goH (p+((hdC c [a]++[y])++B).length) o h2 t2=_
   rw[lap,hl1,show p+((hdC c [a]).length+1+B.length)=q by omega]
   exact g1
 · rw[s3.hi j om,s2.hi j om]
   by_cases z:j=q+(if e.isEmpty then 0 else 1)
   · exfalso
     cases hb:e.isEmpty with
     |true=>rw[hb,if_pos rfl]at z;omega
     |false=>rw[hb,if_neg Bool.false_ne_true]at z;have:=hol hb;omega
   ·exact e5 j om z
 ·rw[s3.lo p om,s2.lo p om];exact e7
theorem while_blk{c:Cc}(hc:c.Loads){a:PE}(ha:WfE 5 a){L p:Nat}{t:List PS}(iht:∀s∈t,∀p,Blk L p (cS c s p))(r:Nat)(hr:p+(hdC c [a]).length+1=r):
    Blk L p (hdC c [a]++⟨28,((r+(cB c t r).length+1:Nat):Int),0,0⟩::(cB c t r++[⟨27,((p:Nat):Int),0,0⟩])):=fun hs top ht pre=>by
 obtain⟨B,hB⟩:∃B,cB c t r=B:=⟨_,rfl⟩
 have blkB:Blk L r B:=by rw[←hB];exact cB_blk t r iht
 rw[hB]at pre⊢
 clear hB
 obtain⟨q,hq⟩:∃q,r+B.length=q:=⟨_,rfl⟩
 rw[hq]at pre⊢
 obtain⟨y,hy⟩:∃y:Ins,(⟨28,((q+1:Nat):Int),0,0⟩:Ins)=y:=⟨_,rfl⟩
 rw[hy]at pre⊢
 have hlen:(hdC c [a]++y::(B++[⟨27,((p:Nat):Int),0,0⟩])).length=(hdC c [a]).length+1+B.length+1:=by rw[lap,lc1,lap];show _+(_+1+1)=_;omega
 rw[hlen]at pre⊢
 have le:=pre.le
 obtain⟨h1,t1,e1,e2,e3,e4,e5,e6,e7,e8,e9⟩:=hd_jump (t:=q+1) (y:=y) hc (one1 ha) (by show 1≤5;omega) (by rw[←hy];exact okO 28) (by rw[←hy];rfl) (by rw[←hy];exact neO 28) (by rw[←hy];rfl) (by rw[←hy];rfl) ht pre om om om
 rw[hr]at e3 e5
 have z1:∀j,r<j→j<p+((hdC c [a]).length+1+B.length+1)→h1.getD j 0=-1:=fun j a b=>by rw[e5 j a om];exact pre.mid j om om
 have preB:Pre L h1 r B.length:=⟨e2,by omega, .inr e3,fun j a b=>z1 j a om,by
  by_cases z2:B.length=0
  ·rw[z2];exact .inr e3
  ·exact .inl (z1 _ om om)⟩
 obtain⟨h2,t2,f1,s2,f3,f4⟩:=blkB h1 t1 om preB
 have hpr:p<r:=by rw[←hr];show p<p+((cEs c [a]).length+1)+1;omega
 obtain⟨h3,g1,g2,g3,g4,g5⟩:=step3 (top:=t2) (i:=q) (t:=p) s2.len om ⟨by omega,by omega⟩ (by have:=s2.fin;rw[hq]at this;exact this) (.inr (by rw[s2.lo p om];exact e7))
 refine⟨h3,max (max t2 0) 0,?_,⟨g2,?_,fun j hj=>?_,fun j hj=>by rw[g5 j om om,s2.lo j om,e6 j hj],fun _=>g4⟩,by omega,by omega⟩
 · rw[show hdC c [a]++y::(B++[⟨27,((p:Nat):Int),0,0⟩])=((hdC c [a]++[y])++B)++[⟨27,((p:Nat):Int),0,0⟩]from by rw[List.append_assoc,List.append_assoc];rfl,goH_app,goH_app,e1]
   show(goH (p+(hdC c [a]++[y]).length) B h1 t1).bind _=_
   have hl1:(hdC c [a]++[y]).length=(hdC c [a]).length+1:=by rw[lap];rfl
   rw[hl1,show p+((hdC c [a]).length+1)=r by omega,f1]
   show goH (p+((hdC c [a]++[y])++B).length) [⟨27,((p:Nat):Int),0,0⟩] h2 t2=_
   rw[lap,hl1,show p+((hdC c [a]).length+1+B.length)=q by omega]
   unfold goH
   rw[g1]
   rfl
 · rw[show p+((hdC c [a]).length+1+B.length+1)=q+1 by omega]
   right
   rw[g5 _ om om,s2.hi _ om];exact e4
 ·rw[g5 j om om,s2.hi j om];exact e5 j om om
theorem stop_blk(L p:Nat):Blk L p [⟨29,0,0,0⟩,⟨34,0,0,0⟩]:=fun hs top ht pre=>by
 have le:p+2≤L:=pre.le
 have m1:hs.getD (p+1) 0=-1:=pre.mid (p+1) om (by show p+1<p+2;omega)
 obtain⟨h1,e1,e2,e3,e4,e5⟩:=step1 (top:=top) (m:=0) (x:=⟨29,0,0,0⟩) pre.len (show p<L by omega) (okO 29) rfl (neO 29) (by have:=pre.at0;unfold Zr at this;omega) (Int.le_refl _) (by rw[m1];unfold okH;omega)
 obtain⟨h2,f1,f2,f3,f4⟩:=step4 (top:=max (max top 0) 0) (i:=p+1) e2 om (.inr e4)
 refine⟨h2,max (max (max (max top 0) 0) 0) 0,?_,⟨f2,?_,fun j hj=>?_,fun j hj=>by rw[f4 j om,e5 j om om],fun _=>by rw[f4 p om];exact e3⟩,by omega,by omega⟩
 · unfold goH
   rw[e1]
   show goH (p+1) [⟨34,0,0,0⟩] h1 (max (max top 0) 0)=_
   unfold goH
   rw[f1]
   rfl
 · refine Zr.of ?_ pre.fin
   show h2.getD (p+2) 0=hs.getD (p+2) 0
   rw[f4 _ om,e5 _ om om]
 · have hj:p+2<j:=hj
   rw[f4 j om,e5 j om om]
theorem cS_blk{c:Cc}(hc:c.Loads){L:Nat}{s:PS}(h:WfS s):∀p,Blk L p (cS c s p):=by
 induction h with
 | one k s h es hk he=>
   intro p
   rcases hk with⟨rfl,hn⟩|⟨rfl,hn⟩|⟨rfl,hn⟩|⟨rfl,hn⟩|⟨rfl,h1,hn⟩
   ·exact blk_one hc he om (y:=⟨24,c.vs s,0,0⟩) (okO 24) rfl (neO 24) (by rw[hn];rfl) rfl L p
   ·exact blk_one hc he om (y:=⟨25,c.ts s,0,0⟩) (okO 25) rfl (neO 25) (by rw[hn];rfl) rfl L p
   ·exact blk_one hc he om (y:=⟨26,c.ts s,0,0⟩) (okO 26) rfl (neO 26) (by rw[hn];rfl) rfl L p
   ·exact blk_one hc he om (y:=⟨30,(c.tg s h).1,(c.tg s h).2,((es.length:Nat):Int)⟩) (okO 30) rfl (neO 30) rfl rfl L p
   ·exact blk_one hc he om (y:=⟨31,0,c.ah h,((es.length:Nat):Int)-1⟩) (okO 31) rfl (neO 31) (show((es.length:Nat):Int)-1+1=_ by omega) rfl L p
 |ife s h a t e ha ht he iht ihe=>intro p;exact if_blk hc ha iht ihe _ rfl
 |whl s h a t ha ht iht=>intro p;exact while_blk hc ha iht _ rfl
 |sto s h a b e ha hb he ihe=>intro p;exact store_blk hc (two2 ha hb) (by show 2≤5;omega) (y:=⟨32,0,_,0⟩) (okO 32) rfl (neO 32) rfl rfl ihe
 |fet s h a e ha he ihe=>intro p;exact store_blk hc (one1 ha) (by show 1≤5;omega) (y:=⟨33,c.vs s,_,0⟩) (okO 33) rfl (neO 33) rfl rfl ihe
 |stop s h=>intro p;exact stop_blk L p
theorem StE.wf{c:Ct}(hc:c.Ok){np d:Nat}{s:PS}(h:StE c np d s):WfS s:=by
 induction h with
 |setB d e h=>exact .one _ _ _ _ (by simp) (one1 h.wf)
 |setX d k e hk h=>exact .one _ _ _ _ (by simp) (one1 (h.wf.up om))
 |put d a b ht ha hb=>exact .one _ _ _ _ (by simp) (two2 (ha.wf.up om) (hb.wf.up om))
 |del d a ht ha=>exact .one _ _ _ _ (by simp) (one1 (ha.wf.up om))
 |ife d e t l h ht hl iht ihl=>exact .ife _ _ _ _ _ h.wf iht ihl
 |whl d e t h ht iht=>exact .whl _ _ _ _ h.wf iht
 | send d to h ar l ha hh hl=>
   have h2:=(hc.each ar (mog ha)).2.2 _ (mog hh)
   exact .one _ _ _ _ (.inr (.inr (.inr (.inl ⟨rfl,by omega⟩)))) fun e he=>(hl e he).wf.up om
 | after d h ar e l ha hh he hl=>
   have h2:=(hc.each ar (mog ha)).2.2 _ (mog hh)
   exact .one _ _ _ _ (.inr (.inr (.inr (.inr ⟨rfl,by rw[lc1];omega,by rw[lc1];omega⟩)))) fun x hx=>by
    rcases List.mem_cons.1 hx with rfl|hx
    ·exact he.wf.up om
    ·exact(hl x hx).wf.up om
 |store d a b l ha hb hl ihl=>exact .sto _ _ _ _ _ (ha.wf.up om) (hb.wf.up om) ihl
 |fetch d k e l hk h hl ihl=>exact .fet _ _ _ _ (h.wf.up om) ihl
 |stop d=>exact .stop _ _
theorem body_heights{c:Cc}(hc:c.Loads){l:List PS}(h:∀s∈l,WfS s):∃t:Int,heightsV (cB c l 0)=(t,true)∧0≤t∧t≤10:=by
 have hr:∀j,j≤(cB c l 0).length→(List.replicate ((cB c l 0).length+1) (-1:Int)).getD j 0=-1:=fun j hj=>by
  rw[List.getD_eq_getElem?_getD,List.getElem?_replicate,if_pos om];rfl
 obtain⟨h',t',e,s,a,b⟩:=cB_blk (L:=(cB c l 0).length) l 0 (fun s hs=>cS_blk hc (h s hs)) (List.replicate ((cB c l 0).length+1) (-1)) 0 (Int.le_refl _) ⟨by rw[List.length_replicate],by omega, .inl (hr _ om),fun j _ hj=>hr j om, .inl (hr _ om)⟩
 refine⟨t',?_,by omega,by omega⟩
 unfold heightsV
 rw[e]
 show(t',decide (h'.getD (cB c l 0).length 0≤0))=_
 have:=s.fin
 unfold Zr at this
 rw[Nat.zero_add]at this
 rw[decide_eq_true om]
theorem opI_len(c:Cc)(op:Nat)(s:ByteArray)(n:Int)(l:List Ins):(l++[opI c op s n]).length=l.length+1:=by rw[lap];rfl
theorem WfE.len{c:Cc}{d:Nat}{e:PE}(h:WfE d e):(cE c e).length<2^(d+1):=by
 induction h with
 | leaf d op s n h=>
   show(([]:List Ins)++[opI c op s n]).length<_
   have:1≤2^d:=Nat.one_le_two_pow
   rw[opI_len,Nat.pow_succ];show 0+1<_;omega
 | un d op s n a h ha ih=>
   show((cE c a++[])++[opI c op s n]).length<_
   have:1≤2^d:=Nat.one_le_two_pow
   rw[opI_len,List.append_nil]
   rw[Nat.pow_succ]at ih
   rw[Nat.pow_succ,Nat.pow_succ];omega
 | bin d op s n a b h ha hb iha ihb=>
   show((cE c a++(cE c b++[]))++[opI c op s n]).length<_
   rw[opI_len,List.append_nil,lap,Nat.pow_succ];omega
theorem cEs_len{c:Cc}:∀(l:List PE),(∀e∈l,WfE 5 e)→(cEs c l).length≤63*l.length
 |[],_=>Nat.zero_le _
 | e::r,h=>by
   have h1:(cE c e).length<2^6:=(h e (List.mem_cons_self ..)).len
   have h2:=cEs_len (c:=c) r fun x hx=>h x (List.mem_cons_of_mem _ hx)
   show(cE c e++cEs c r).length≤_
   rw[lap,lc1];omega
theorem ovr_len(p:Nat)(e:List Ins)(b:Bool):(ovr p e b).length≤e.length+1:=by
 cases b
 ·exact Nat.le_refl _
 ·exact Nat.zero_le _
theorem cB_len{c:Cc}:∀(l:List PS) (p:Nat),(∀s∈l,∀p,(cS c s p).length≤318*s.cnt)→(cB c l p).length≤318*PS.cntL l
 |[],p,_=>Nat.zero_le _
 | s::r,p,h=>by
   show(cS c s p++cB c r _).length≤318*(s.cnt+PS.cntL r)
   have h1:=h s (List.mem_cons_self ..) p
   have h2:=cB_len r (p+(cS c s p).length) fun x hx=>h x (List.mem_cons_of_mem _ hx)
   rw[lap];omega
theorem cS_len{c:Cc}{s:PS}(h:WfS s):∀p,(cS c s p).length≤318*s.cnt:=by
 induction h with
 | one k s h es hk he=>
   intro p
   have:=cEs_len (c:=c) es he
   have hn:es.length≤5:=om
   have e:(PS.cnt ⟨k,s,h,es,[],[]⟩)=1:=rfl
   rw[e]
   rcases hk with⟨rfl,_⟩|⟨rfl,_⟩|⟨rfl,_⟩|⟨rfl,_⟩|⟨rfl,_⟩
   ·show(hdC c es++[(⟨24,c.vs s,0,0⟩:Ins)]).length≤_;rw[lap];show(cEs c es).length+1+1≤_;omega
   ·show(hdC c es++[(⟨25,c.ts s,0,0⟩:Ins)]).length≤_;rw[lap];show(cEs c es).length+1+1≤_;omega
   ·show(hdC c es++[(⟨26,c.ts s,0,0⟩:Ins)]).length≤_;rw[lap];show(cEs c es).length+1+1≤_;omega
   ·show(hdC c es++[(⟨30,(c.tg s h).1,(c.tg s h).2,((es.length:Nat):Int)⟩:Ins)]).length≤_;rw[lap];show(cEs c es).length+1+1≤_;omega
   ·show(hdC c es++[(⟨31,0,c.ah h,((es.length:Nat):Int)-1⟩:Ins)]).length≤_;rw[lap];show(cEs c es).length+1+1≤_;omega
 | ife s h a t e ha ht he iht ihe=>
   intro p
   have h1:=cEs_len (c:=c) [a] (one1 ha)
   obtain⟨r,hr⟩:∃r,p+(hdC c [a]).length+1=r:=⟨_,rfl⟩
   show(hdC c [a]++(⟨28,((p+(hdC c [a]).length+1+(cB c t (p+(hdC c [a]).length+1)).length+(if e.isEmpty then 0 else 1):Nat):Int),0,0⟩:Ins)::(cB c t (p+(hdC c [a]).length+1)++ovr (p+(hdC c [a]).length+1+(cB c t (p+(hdC c [a]).length+1)).length) (cB c e (p+(hdC c [a]).length+1+(cB c t (p+(hdC c [a]).length+1)).length+1)) e.isEmpty)).length≤318*(1+PS.cntL t+PS.cntL e)
   rw[hr]
   have h2:=cB_len t r iht
   have h3:=cB_len e (r+(cB c t r).length+1) ihe
   have h4:=ovr_len (r+(cB c t r).length) (cB c e (r+(cB c t r).length+1)) e.isEmpty
   rw[lap,lc1,lap]
   have h5:(hdC c [a]).length=(cEs c [a]).length+1:=rfl
   have h6:[a].length=1:=rfl
   omega
 | whl s h a t ha ht iht=>
   intro p
   have h1:=cEs_len (c:=c) [a] (one1 ha)
   obtain⟨r,hr⟩:∃r,p+(hdC c [a]).length+1=r:=⟨_,rfl⟩
   show(hdC c [a]++(⟨28,((p+(hdC c [a]).length+1+(cB c t (p+(hdC c [a]).length+1)).length+1:Nat):Int),0,0⟩:Ins)::(cB c t (p+(hdC c [a]).length+1)++[(⟨27,((p:Nat):Int),0,0⟩:Ins)])).length≤318*(1+PS.cntL t+0)
   rw[hr]
   have h2:=cB_len t r iht
   rw[lap,lc1,lap]
   have h5:(hdC c [a]).length=(cEs c [a]).length+1:=rfl
   have h6:[a].length=1:=rfl
   have h7:[(⟨27,((p:Nat):Int),0,0⟩:Ins)].length=1:=rfl
   omega
 | sto s h a b e ha hb he ihe=>
   intro p
   have h1:=cEs_len (c:=c) [a,b] (two2 ha hb)
   obtain⟨r,hr⟩:∃r,p+(hdC c [a,b]).length+1=r:=⟨_,rfl⟩
   show(hdC c [a,b]++(⟨32,0,((p+(hdC c [a,b]).length+1+(if e.isEmpty then 0 else 1):Nat):Int),0⟩:Ins)::ovr (p+(hdC c [a,b]).length+1) (cB c e (p+(hdC c [a,b]).length+1+1)) e.isEmpty).length≤318*(1+0+PS.cntL e)
   rw[hr]
   have h3:=cB_len e (r+1) ihe
   have h4:=ovr_len r (cB c e (r+1)) e.isEmpty
   rw[lap,lc1]
   have h5:(hdC c [a,b]).length=(cEs c [a,b]).length+1:=rfl
   have h6:[a,b].length=2:=rfl
   omega
 | fet s h a e ha he ihe=>
   intro p
   have h1:=cEs_len (c:=c) [a] (one1 ha)
   obtain⟨r,hr⟩:∃r,p+(hdC c [a]).length+1=r:=⟨_,rfl⟩
   show(hdC c [a]++(⟨33,c.vs s,((p+(hdC c [a]).length+1+(if e.isEmpty then 0 else 1):Nat):Int),0⟩:Ins)::ovr (p+(hdC c [a]).length+1) (cB c e (p+(hdC c [a]).length+1+1)) e.isEmpty).length≤318*(1+0+PS.cntL e)
   rw[hr]
   have h3:=cB_len e (r+1) ihe
   have h4:=ovr_len r (cB c e (r+1)) e.isEmpty
   rw[lap,lc1]
   have h5:(hdC c [a]).length=(cEs c [a]).length+1:=rfl
   have h6:[a].length=1:=rfl
   omega
 |stop s h=>intro p;show 2≤318*1;omega
structure Cc.Is(cc:Cc)(c:Ct)(np:Nat):Prop where
 ldx:∀k,k<c.ints→cc.pn (nm 120 k)=⟨2,(k:Int),0,0⟩
 ldb:cc.pn nB0=⟨2,(c.ints:Int),0,0⟩
 ldp:∀k,k<np→cc.pn (nm 112 k)=⟨3,(k:Int),0,0⟩
 ldf:∀k,k<c.flags→cc.pn (nm 102 k)=⟨4,(k:Int),0,0⟩
 vsx:∀k,k<c.ints→cc.vs (nm 120 k)=(k:Int)
 vsb:cc.vs nB0=(c.ints:Int)
 ts:0<c.tables→cc.ts nT0=0
 tg:∀to ar h n,c.ars[to]?=some ar→ar[h]?=some n→cc.tg (nC to) (nm 104 h)=((to:Int),(h:Int))
 ah:∀ar h n,c.ars[c.own]?=some ar→ar[h]?=some n→cc.ah (nm 104 h)=(h:Int)
structure Each(c:Ct)(np:Nat)(Q:Ins→Prop):Prop where
 one:∀n:Int,0≤n→n<9→Q ⟨1,0,0,n⟩
 plain:∀op:Nat,op=5∨(9≤op∧op≤23)∨op=29∨op=34→Q ⟨op,0,0,0⟩
 ldx:∀k:Nat,k≤c.ints→Q ⟨2,(k:Int),0,0⟩
 ldp:∀k:Nat,k<np→Q ⟨3,(k:Int),0,0⟩
 ldf:∀k:Nat,k<c.flags→Q ⟨4,(k:Int),0,0⟩
 stx:∀k:Nat,k≤c.ints→Q ⟨24,(k:Int),0,0⟩
 tab:∀op:Nat,0<c.tables→(6≤op∧op≤8)∨op=25∨op=26→Q ⟨op,0,0,0⟩
 send:∀to h n:Nat,to<3→h<3→n≤2→Q ⟨30,(to:Int),(h:Int),(n:Int)⟩
 after:∀h n:Nat,h<3→n≤2→Q ⟨31,0,(h:Int),(n:Int)⟩
def AllQ(Q:Ins→Prop)(l:List Ins):Prop:=∀x∈l,Q x
theorem AllQ.nil{Q:Ins→Prop}:AllQ Q []:=fun _ h=>by cases h
theorem AllQ.cons{Q:Ins→Prop}{x:Ins}{l:List Ins}(h:Q x)(hl:AllQ Q l):AllQ Q (x::l):=fun y hy=>by
 rcases List.mem_cons.1 hy with rfl|hy
 ·exact h
 ·exact hl y hy
theorem AllQ.app{Q:Ins→Prop}{l m:List Ins}(h:AllQ Q l)(hm:AllQ Q m):AllQ Q (l++m):=fun y hy=>(List.mem_append.1 hy).elim (h y) (hm y)
theorem AllQ.le{Q:Ins→Prop}{l:List Ins}(h:AllQ Q l){x:Ins}(hx:x∈l):Q x:=h x hx
theorem IntE.all{cc:Cc}{c:Ct}{np d:Nat}{e:PE}{Q:Ins→Prop}(hq:Each c np Q)(hc:cc.Is c np)(h:IntE c np d e):AllQ Q (cE cc e):=by
 induction h with
 |num d n h=>exact .cons (hq.one (n:Int) om om) .nil
 |var d k h=>exact .cons (by show Q (cc.pn _);rw[hc.ldx k h];exact hq.ldx k om) .nil
 |par d k h=>exact .cons (by show Q (cc.pn _);rw[hc.ldp k h];exact hq.ldp k h) .nil
 |now d=>exact .cons (hq.plain 5 om) .nil
 |get d e ht h ih=>exact .app (.app ih .nil) (.cons (by show Q ⟨6,cc.ts nT0,0,0⟩;rw[hc.ts ht];exact hq.tab 6 ht om) .nil)
 |size d ht=>exact .cons (by show Q ⟨8,cc.ts nT0,0,0⟩;rw[hc.ts ht];exact hq.tab 8 ht om) .nil
 |neg d e h ih=>exact .app (.app ih .nil) (.cons (hq.plain 9 om) .nil)
 | bin d op a b ho ha hb iha ihb=>
   refine .app (.app iha (.app ihb .nil)) (.cons ?_ .nil)
   unfold opI
   rw[if_neg om,if_neg om,if_neg om,if_neg om,if_neg om,if_neg om]
   exact hq.plain op om
theorem TruE.all{cc:Cc}{c:Ct}{np d:Nat}{e:PE}{Q:Ins→Prop}(hq:Each c np Q)(hc:cc.Is c np)(h:TruE c np d e):AllQ Q (cE cc e):=by
 induction h with
 | tf d op h=>
   rcases h with rfl|rfl
   ·exact .cons (hq.one 1 (by decide) (by decide)) .nil
   ·exact .cons (hq.one 0 (by decide) (by decide)) .nil
 |b0 d=>exact .cons (by show Q (cc.pn _);rw[hc.ldb];exact hq.ldx _ (Nat.le_refl _)) .nil
 |flag d k h=>exact .cons (by show Q (cc.pn _);rw[hc.ldf k h];exact hq.ldf k h) .nil
 |has d e ht h=>exact .app (.app (h.all hq hc) .nil) (.cons (by show Q ⟨7,cc.ts nT0,0,0⟩;rw[hc.ts ht];exact hq.tab 7 ht om) .nil)
 |not d e h ih=>exact .app (.app ih .nil) (.cons (hq.plain 10 om) .nil)
 | two d op a b ho ha hb iha ihb=>
   refine .app (.app iha (.app ihb .nil)) (.cons ?_ .nil)
   unfold opI
   rw[if_neg om,if_neg om,if_neg om,if_neg om,if_neg om,if_neg om]
   exact hq.plain op om
 | cmp d op a b ho ha hb=>
   refine .app (.app (ha.all hq hc) (.app (hb.all hq hc) .nil)) (.cons ?_ .nil)
   unfold opI
   rw[if_neg om,if_neg om,if_neg om,if_neg om,if_neg om,if_neg om]
   exact hq.plain op om
theorem cEs_all{cc:Cc}{Q:Ins→Prop}:∀{l:List PE},(∀e∈l,AllQ Q (cE cc e))→AllQ Q (cEs cc l)
 |[],_=> .nil
 |e::r,h=> .app (h e (List.mem_cons_self ..)) (cEs_all fun x hx=>h x (List.mem_cons_of_mem _ hx))
theorem ovr_all{Q:Ins→Prop}{p:Nat}{e:List Ins}{b:Bool}(h:b=false→Q ⟨27,((p+1+e.length:Nat):Int),0,0⟩)(he:AllQ Q e):AllQ Q (ovr p e b):=by
 cases b
 ·exact .cons (h rfl) he
 ·exact .nil
structure EachJ(n:Nat)(ints:Nat)(Q:Ins→Prop):Prop where
 jump:∀op t:Nat,op=27∨op=28→t≤n→Q ⟨op,(t:Int),0,0⟩
 store:∀t:Nat,t≤n→Q ⟨32,0,(t:Int),0⟩
 fetch:∀k t:Nat,k≤ints→t≤n→Q ⟨33,(k:Int),(t:Int),0⟩
theorem cB_all{cc:Cc}{Q:Ins→Prop}{n:Nat}:∀(l:List PS) (p:Nat),(∀s∈l,∀p,p+(cS cc s p).length≤n→AllQ Q (cS cc s p))→p+(cB cc l p).length≤n→AllQ Q (cB cc l p)
 |[],_,_,_=> .nil
 | s::r,p,h,hn=>by
   have hn:p+(cS cc s p++cB cc r (p+(cS cc s p).length)).length≤n:=hn
   rw[lap]at hn
   exact .app (h s (List.mem_cons_self ..) p om) (cB_all r _ (fun x hx=>h x (List.mem_cons_of_mem _ hx)) om)
theorem StE.all{cc:Cc}{c:Ct}(hok:c.Ok){np d n:Nat}{s:PS}{Q:Ins→Prop}(hq:Each c np Q)(hj:EachJ n c.ints Q)(hc:cc.Is c np)(h:StE c np d s):∀p,p+(cS cc s p).length≤n→AllQ Q (cS cc s p):=by
 have cost:Q ⟨29,0,0,0⟩:=hq.plain 29 om
 induction h with
 |setB d e h=>intro p _;exact .app (.cons cost (.app (h.all hq hc) .nil)) (.cons (by show Q ⟨24,cc.vs nB0,0,0⟩;rw[hc.vsb];exact hq.stx _ (Nat.le_refl _)) .nil)
 |setX d k e hk h=>intro p _;exact .app (.cons cost (.app (h.all hq hc) .nil)) (.cons (by show Q ⟨24,cc.vs (nm 120 k),0,0⟩;rw[hc.vsx k hk];exact hq.stx k om) .nil)
 |put d a b ht ha hb=>intro p _;exact .app (.cons cost (.app (ha.all hq hc) (.app (hb.all hq hc) .nil))) (.cons (by show Q ⟨25,cc.ts nT0,0,0⟩;rw[hc.ts ht];exact hq.tab 25 ht om) .nil)
 |del d a ht ha=>intro p _;exact .app (.cons cost (.app (ha.all hq hc) .nil)) (.cons (by show Q ⟨26,cc.ts nT0,0,0⟩;rw[hc.ts ht];exact hq.tab 26 ht om) .nil)
 | ife d e t l h ht hl iht ihl=>
   intro p
   obtain⟨r,hr⟩:∃r,p+(hdC cc [e]).length+1=r:=⟨_,rfl⟩
   have e0:cS cc ⟨4,nE,nE,[e],t,l⟩ p=hdC cc [e]++⟨28,((r+(cB cc t r).length+(if l.isEmpty then 0 else 1):Nat):Int),0,0⟩::(cB cc t r++ovr (r+(cB cc t r).length) (cB cc l (r+(cB cc t r).length+1)) l.isEmpty):=by rw[←hr];rfl
   rw[e0,lap,lc1,lap]
   intro hn
   have hov:l.isEmpty=false→(ovr (r+(cB cc t r).length) (cB cc l (r+(cB cc t r).length+1)) l.isEmpty).length=(cB cc l (r+(cB cc t r).length+1)).length+1:=fun hb=>by rw[hb];rfl
   refine .app (.cons cost (.app (h.all hq hc) .nil)) (.cons (hj.jump 28 _ om ?_) (.app (cB_all t r iht om) ?_))
   · cases hb:l.isEmpty with
     |true=>rw[if_pos rfl];omega
     |false=>rw[if_neg Bool.false_ne_true];have:=hov hb;omega
   · cases hb:l.isEmpty with
     |true=>exact .nil
     | false=>
       have:=hov hb
       exact ovr_all (fun _=>hj.jump 27 _ om om) (cB_all l _ ihl om)
 | whl d e t h ht iht=>
   intro p
   obtain⟨r,hr⟩:∃r,p+(hdC cc [e]).length+1=r:=⟨_,rfl⟩
   have e0:cS cc ⟨5,nE,nE,[e],t,[]⟩ p=hdC cc [e]++⟨28,((r+(cB cc t r).length+1:Nat):Int),0,0⟩::(cB cc t r++[⟨27,((p:Nat):Int),0,0⟩]):=by rw[←hr];rfl
   rw[e0,lap,lc1,lap]
   have h7:[(⟨27,((p:Nat):Int),0,0⟩:Ins)].length=1:=rfl
   intro hn
   exact .app (.cons cost (.app (h.all hq hc) .nil)) (.cons (hj.jump 28 _ om om) (.app (cB_all t r iht om) (.cons (hj.jump 27 _ om om) .nil)))
 | send d to h ar l ha hh hl=>
   intro p _
   have h3:=hok.each ar (mog ha)
   have h2:=h3.2.2 _ (mog hh)
   have h4:=(List.getElem?_eq_some_iff.1 ha).1
   have h5:=(List.getElem?_eq_some_iff.1 hh).1
   have h6:=hok.some
   refine .app (.cons cost (cEs_all fun x hx=>(hl x hx).all hq hc)) (.cons ?_ .nil)
   show Q ⟨30,(cc.tg (nC to) (nm 104 h)).1,(cc.tg (nC to) (nm 104 h)).2,((l.length:Nat):Int)⟩
   rw[hc.tg to ar h _ ha hh]
   exact hq.send to h _ om om h2
 | after d h ar e l ha hh he hl=>
   intro p _
   have h3:=hok.each ar (mog ha)
   have h2:=h3.2.2 _ (mog hh)
   have h5:=(List.getElem?_eq_some_iff.1 hh).1
   refine .app (.cons cost (cEs_all fun x hx=>?_)) (.cons ?_ .nil)
   · rcases List.mem_cons.1 hx with rfl|hx
     ·exact he.all hq hc
     ·exact(hl x hx).all hq hc
   · show Q ⟨31,0,cc.ah (nm 104 h),(((e::l).length:Nat):Int)-1⟩
     rw[hc.ah ar h _ ha hh,show(((e::l).length:Nat):Int)-1=((l.length:Nat):Int)from by rw[lc1];omega]
     exact hq.after h _ om h2
 | store d a b l ha hb hl ihl=>
   intro p
   obtain⟨r,hr⟩:∃r,p+(hdC cc [a,b]).length+1=r:=⟨_,rfl⟩
   have e0:cS cc ⟨8,nE,nE,[a,b],[],l⟩ p=hdC cc [a,b]++⟨32,0,((r+(if l.isEmpty then 0 else 1):Nat):Int),0⟩::ovr r (cB cc l (r+1)) l.isEmpty:=by rw[←hr];rfl
   rw[e0,lap,lc1]
   intro hn
   have hov:l.isEmpty=false→(ovr r (cB cc l (r+1)) l.isEmpty).length=(cB cc l (r+1)).length+1:=fun hb=>by rw[hb];rfl
   refine .app (.cons cost (.app (ha.all hq hc) (.app (hb.all hq hc) .nil))) (.cons (hj.store _ ?_) ?_)
   · cases hb:l.isEmpty with
     |true=>rw[if_pos rfl];omega
     |false=>rw[if_neg Bool.false_ne_true];have:=hov hb;omega
   · cases hb:l.isEmpty with
     |true=>exact .nil
     | false=>
       have:=hov hb
       exact ovr_all (fun _=>hj.jump 27 _ om om) (cB_all l _ ihl om)
 | fetch d k e l hk h hl ihl=>
   intro p
   obtain⟨r,hr⟩:∃r,p+(hdC cc [e]).length+1=r:=⟨_,rfl⟩
   have e0:cS cc ⟨9,nm 120 k,nE,[e],[],l⟩ p=hdC cc [e]++⟨33,cc.vs (nm 120 k),((r+(if l.isEmpty then 0 else 1):Nat):Int),0⟩::ovr r (cB cc l (r+1)) l.isEmpty:=by rw[←hr];rfl
   rw[e0,lap,lc1]
   intro hn
   have hov:l.isEmpty=false→(ovr r (cB cc l (r+1)) l.isEmpty).length=(cB cc l (r+1)).length+1:=fun hb=>by rw[hb];rfl
   refine .app (.cons cost (.app (h.all hq hc) .nil)) (.cons ?_ ?_)
   · rw[hc.vsx k hk]
     refine hj.fetch k _ om ?_
     cases hb:l.isEmpty with
     |true=>rw[if_pos rfl];omega
     |false=>rw[if_neg Bool.false_ne_true];have:=hov hb;omega
   · cases hb:l.isEmpty with
     |true=>exact .nil
     | false=>
       have:=hov hb
       exact ovr_all (fun _=>hj.jump 27 _ om om) (cB_all l _ ihl om)
 |stop d=>intro p _;exact .cons cost (.cons (hq.plain 34 om) .nil)
theorem form_each{c:Ct}(hok:c.Ok){np n:Nat}(hnp:np≤4):Each c np (fun x=>formR (np:Int) n x=true)∧EachJ n c.ints (fun x=>formR (np:Int) n x=true):=by
 have hi:=hok.ints
 have hf:=hok.flags
 refine⟨⟨fun k _ _=>?_,fun op ho=>?_,fun k hk=>?_,fun k hk=>?_,fun k hk=>?_,fun k hk=>?_,fun op _ ho=>?_,fun to h k h1 h2 h3=>?_,fun h k h1 h2=>?_⟩,⟨fun op t ho ht=>?_,fun t ht=>?_,fun k t hk ht=>?_⟩⟩
 ·simp[formR,uA,uB,uN,jR]
 ·rcases(by omega:op=5∨op=9∨op=10∨op=11∨op=12∨op=13∨op=14∨op=15∨op=16∨op=17∨op=18∨op=19∨op=20∨op=21∨op=22∨op=23∨op=29∨op=34)with rfl|rfl|rfl|rfl|rfl|rfl|rfl|rfl|rfl|rfl|rfl|rfl|rfl|rfl|rfl|rfl|rfl|rfl<;>simp[formR,uA,uB,uN,jR]
 ·simp[formR,uA,uB,uN,jR];omega
 ·simp[formR,uA,uB,uN,jR];omega
 ·simp[formR,uA,uB,uN,jR];omega
 ·simp[formR,uA,uB,uN,jR];omega
 ·rcases(by omega:op=6∨op=7∨op=8∨op=25∨op=26)with rfl|rfl|rfl|rfl|rfl<;>simp[formR,uA,uB,uN,jR]
 ·simp[formR,uA,uB,uN,jR];omega
 ·simp[formR,uA,uB,uN,jR];omega
 ·rcases ho with rfl|rfl<;>simp[formR,uA,uB,uN,jR]<;>omega
 ·simp[formR,uA,uB,uN,jR];omega
 ·simp[formR,uA,uB,uN,jR];omega
theorem bytesOf_inj{l m:List Nat}(hl:∀x∈l,x<256)(hm:∀x∈m,x<256)(h:bytesOf l=bytesOf m):l=m:=by
 have h1:(l.map UInt8.ofNat).toArray=(m.map UInt8.ofNat).toArray:=congrArg ByteArray.data h
 have h2:l.map UInt8.ofNat=m.map UInt8.ofNat:=by simpa using h1
 have e:∀l:List Nat,(∀x∈l,x<256)→(l.map UInt8.ofNat).map UInt8.toNat=l:=fun l hl=>by
  rw[List.map_map]
  exact(List.map_congr_left fun x hx=>by
   show(UInt8.ofNat x).toNat=id x
   rw[UInt8.toNat_ofNat'];exact Nat.mod_eq_of_lt (hl x hx)).trans (List.map_id l)
 rw[←e l hl,h2,e m hm]
theorem nm_inj{c d k j:Nat}(hc:c<256)(hd:d<256)(hk:k<200)(hj:j<200)(h:nm c k=nm d j):c=d∧k=j:=by
 have:=bytesOf_inj (l:=[c,48+k]) (m:=[d,48+j]) (by intro x hx;simp only[List.mem_cons,List.not_mem_nil,or_false]at hx;omega) (by intro x hx;simp only[List.mem_cons,List.not_mem_nil,or_false]at hx;omega) h
 simp only[List.cons.injEq,and_true]at this
 omega
theorem nC_inj{i j:Nat}(hi:i<100)(hj:j<100)(h:nC i=nC j):i=j:=by
 have:=bytesOf_inj (l:=[97+i]) (m:=[97+j]) (by intro x hx;simp only[List.mem_cons,List.not_mem_nil,or_false]at hx;omega) (by intro x hx;simp only[List.mem_cons,List.not_mem_nil,or_false]at hx;omega) h
 simp only[List.cons.injEq,and_true]at this
 omega
theorem nB0_nm:nB0=nm 98 0:=rfl
def ixF(s:ByteArray):Nat→List ByteArray→Option Nat
 |_,[]=>none
 |k,x::r=>if x=s then some k else ixF s (k+1) r
theorem ixF_none{s:ByteArray}:∀{l:List ByteArray} {k:Nat},s∉l→ixF s k l=none
 |[],_,_=>rfl
 | x::r,k,h=>by
   rw[ixF,if_neg fun e=>h (by rw[e];exact List.mem_cons_self ..)]
   exact ixF_none fun hx=>h (List.mem_cons_of_mem _ hx)
theorem ixF_at{s:ByteArray}:∀{l:List ByteArray} {k j:Nat},l[j]?=some s→(∀i,i<j→l[i]?≠some s)→ixF s k l=some (k+j)
 |[],_,_,h,_=>by simp at h
 |x::r,k,0,h,_=>by rw[ixF,if_pos (by simpa using h)];rfl
 | x::r,k,j+1,h,hn=>by
   have h0:=hn 0 om
   rw[ixF,if_neg (by intro e;exact h0 (by rw[e];rfl)),ixF_at (l:=r) (k:=k+1) (j:=j) (by simpa using h) (fun i hi=>by have:=hn (i+1) om;simpa using this)]
   congr 1;omega
theorem nms_ix{c n k:Nat}(hc:c<256)(hn:n<200)(hk:k<n)(m:Nat):ixF (nm c k) m (nms c n)=some (m+k):=by
 refine ixF_at (nms_get hk) fun i hi h=>?_
 rw[nms_get om]at h
 have:=(nm_inj hc hc om om (Option.some.inj h)).2
 omega
theorem nms_not{c d n k:Nat}(hc:c<256)(hd:d<256)(hn:n<200)(hk:k<200)(h:c≠d):nm d k∉nms c n:=fun hm=>by
 unfold nms at hm
 obtain⟨i,hi,he⟩:=List.mem_map.1 hm
 have:=(nm_inj hc hd (by have:=List.mem_range.1 hi;omega) hk he).1
 exact h this
def slF(s:ByteArray)(tab:Bool):Nat→List Vr→Option Nat
 |_,[]=>none
 |k,v::r=>if decide (v.ty=3)≠tab then slF s tab k r else if v.name=s then some k else slF s tab (k+1) r
def oI(o:Option Nat):Int:=match o with|some k=>(k:Int)|none=>-1
def slI(vars:List Vr)(s:ByteArray)(tab:Bool):Int:=oI (slF s tab 0 vars)
instance memDec(s:ByteArray):(l:List ByteArray)→Decidable (s∈l)
 |[]=> .isFalse (fun h=>by cases h)
 | x::r=>if h:s=x then .isTrue (by rw[h];exact List.mem_cons_self ..)else match memDec s r with
   | .isTrue k=> .isTrue (List.mem_cons_of_mem _ k)
   | .isFalse k=> .isFalse fun m=>(List.mem_cons.1 m).elim h k
def hnAdd(o:List ByteArray)(l:List PH):List ByteArray:=l.foldl (fun(o:List ByteArray) (h:PH)=>if h.name∈o then o else o++[h.name]) o
def hnames(v:List (List PH)):List ByteArray:=v.foldl hnAdd []
def tgF(cn hn:ByteArray):Nat→List PC→Int×Int
 |_,[]=>(-1,-1)
 |i,c::r=>if c.name=cn then(match ixF hn 0 (hnames c.vers)with|some h=>((i:Int),(h:Int))|none=>tgF cn hn (i+1) r)else tgF cn hn (i+1) r
def ccR(f:PF)(own:ByteArray)(vars:List Vr)(ps:List ByteArray):Cc where
 pn s:=match ixF s 0 ps with|some k=>⟨3,(k:Int),0,0⟩|none=>match ixF s 0 (f.flags.map Fg.name)with|some k=>⟨4,(k:Int),0,0⟩|none=>⟨2,slI vars s false,0,0⟩
 vs s:=slI vars s false
 ts s:=slI vars s true
 tg c h:=tgF c h 0 f.comps
 ah h:=(tgF own h 0 f.comps).2
theorem ccR_loads(f:PF)(own:ByteArray)(vars:List Vr)(ps:List ByteArray):(ccR f own vars ps).Loads:=fun s=>by
 unfold ccR
 simp only
 split
 ·exact(show 2≤3∧3≤4 by decide)
 · split
   ·exact(show 2≤4∧4≤4 by decide)
   ·exact(show 2≤2∧2≤4 by decide)
def varN(vars:List Vr)(tab:Bool):List ByteArray:=(vars.filter fun v=>decide (v.ty=3)==tab).map Vr.name
def ccP(f:PF)(own:Nat)(vars:List Vr)(ps:List ByteArray):Cc where
 pn s:=match ixF s 0 ps with|some k=>⟨3,(k:Int),0,0⟩|none=>match ixF s 0 (varN vars false)with|some k=>⟨2,(k:Int),0,0⟩|none=>⟨4,oI (ixF s 0 (f.flags.map Fg.name)),0,0⟩
 vs s:=oI (ixF s 0 (varN vars false))
 ts s:=oI (ixF s 0 (varN vars true))
 tg c h:=(oI (ixF c 0 (f.comps.map PC.name)),oI (ixF h 0 (((f.comps.map fun c=>hnames c.vers)[(oI (ixF c 0 (f.comps.map PC.name))).toNat]?).getD [])))
 ah h:=oI (ixF h 0 (((f.comps.map fun c=>hnames c.vers)[own]?).getD []))
theorem slF_ix(s:ByteArray)(tab:Bool):∀(vars:List Vr) (k:Nat),slF s tab k vars=ixF s k (varN vars tab)
 |[],k=>rfl
 | v ::r,k=>by
   rw[slF]
   unfold varN
   by_cases h:decide (v.ty=3)=tab
   · rw[if_neg (fun e=>e h),List.filter_cons_of_pos (by rw[h];exact beq_self_eq_true _),List.map_cons,ixF,slF_ix s tab r (k+1)]
     rfl
   · rw[if_pos h,List.filter_cons_of_neg (by simpa using h),slF_ix s tab r k]
     rfl
theorem varN_int(ints tables:Nat):varN (varsOf ints tables) false=nms 120 ints++[nB0]:=by
 unfold varN varsOf nms
 rw[List.filter_append,List.filter_append,List.map_append,List.map_append]
 have h1:((List.range ints).map (fun k=>(⟨nm 120 k,1,(k:Int)⟩:Vr))).filter (fun v=>decide (v.ty=3)==false)=(List.range ints).map (fun k=>(⟨nm 120 k,1,(k:Int)⟩:Vr)):=List.filter_eq_self.2 fun v hv=>by
  obtain⟨k,_,rfl⟩:=List.mem_map.1 hv;rfl
 have h2:((List.range tables).map (fun _=>(⟨nT0,3,0⟩:Vr))).filter (fun v=>decide (v.ty=3)==false)=[]:=List.filter_eq_nil_iff.2 fun v hv=>by
  obtain⟨k,_,rfl⟩:=List.mem_map.1 hv;exact Bool.false_ne_true
 rw[h1,h2,List.map_map,List.map_nil,List.append_nil]
 rfl
theorem varN_tab(ints tables:Nat):varN (varsOf ints tables) true=List.replicate tables nT0:=by
 unfold varN varsOf
 rw[List.filter_append,List.filter_append,List.map_append,List.map_append]
 have h1:((List.range ints).map (fun k=>(⟨nm 120 k,1,(k:Int)⟩:Vr))).filter (fun v=>decide (v.ty=3)==true)=[]:=List.filter_eq_nil_iff.2 fun v hv=>by
  obtain⟨k,_,rfl⟩:=List.mem_map.1 hv;exact Bool.false_ne_true
 have h2:((List.range tables).map (fun _=>(⟨nT0,3,0⟩:Vr))).filter (fun v=>decide (v.ty=3)==true)=(List.range tables).map (fun _=>(⟨nT0,3,0⟩:Vr)):=List.filter_eq_self.2 fun v hv=>by
  obtain⟨k,_,rfl⟩:=List.mem_map.1 hv;rfl
 rw[h1,h2,List.map_map]
 show[]++[]++(List.range tables).map (fun _=>nT0)=_
 rw[List.append_nil,List.nil_append,List.map_const',List.length_range]
theorem hnAdd_nms{a:Nat}:∀(l:List PH) (k:Nat),k≤a→a+l.length<100→(∀j h,l[j]?=some h→h.name=nm 104 (k+j))→hnAdd (nms 104 a) l=nms 104 (max a (k+l.length))
 | [],k,hk,_,_=>by
   rw[ln0,Nat.add_zero,Nat.max_eq_left hk];rfl
 | h ::r,k,hk,hn,hl=>by
   have h0:h.name=nm 104 k:=hl 0 h rfl
   rw[lc1]at hn
   have hr:∀j x,r[j]?=some x→x.name=nm 104 (k+1+j):=fun j x hx=>by
    rw[show k+1+j=k+(j+1) by omega];exact hl (j+1) x (by simpa using hx)
   show hnAdd (if h.name∈nms 104 a then nms 104 a else nms 104 a++[h.name]) r=_
   by_cases hlt:k<a
   ·rw[if_pos (by rw[h0];exact mog (nms_get hlt)),hnAdd_nms r (k+1) hlt om hr,lc1,show k+1+r.length=k+(r.length+1) by omega]
   · have hka:k=a:=om
     subst hka
     rw[if_neg (by
      rw[h0];intro hm
      unfold nms at hm
      obtain⟨i,hi,he⟩:=List.mem_map.1 hm
      have h1:=List.mem_range.1 hi
      have:=(nm_inj (by decide) (by decide) om om he).2
      omega),h0,←nms_succ,hnAdd_nms r (k+1) (Nat.le_refl _) om hr,lc1]
     congr 1;omega
theorem GoodV.names{c:Ct}{ar:List Nat}{l:List PH}(h:GoodV c ar l):∀j x,l[j]?=some x→x.name=nm 104 (0+j):=fun j x hx=>by rw[Nat.zero_add];exact(h.2.2 j x hx).name
theorem hnames_good{c:Ct}{ar:List Nat}(har:ar.length≤3):∀(v:List (List PH)) (a:Nat),a≤ar.length→(∀x∈v,GoodV c ar x)→∃b,v.foldl hnAdd (nms 104 a)=nms 104 b∧a≤b∧b≤ar.length∧∀x∈v,x.length≤b
 |[],a,ha,_=>⟨a,rfl,Nat.le_refl _,ha,fun x h=>by cases h⟩
 | x ::r,a,ha,h=>by
   have hx:=h x (List.mem_cons_self ..)
   have hl:=hx.2.1
   obtain⟨b,e,h1,h2,h3⟩:=hnames_good har r (max a (0+x.length)) om fun y hy=>h y (List.mem_cons_of_mem _ hy)
   refine⟨b,?_,by omega,h2,fun y hy=>?_⟩
   ·rw[List.foldl_cons,hnAdd_nms x 0 om om hx.names];exact e
   · rcases List.mem_cons.1 hy with rfl|hy
     ·omega
     ·exact h3 y hy
theorem GoodC.hnames{flags:Nat}{ars:List (List Nat)}{i:Nat}{c:PC}(ho:arsOk ars)(h:GoodC flags ars i c):∃ar,ars[i]?=some ar∧Go.Proofs.YtlihklladkagpaaGreatDoor.hnames c.vers=nms 104 ar.length:=by
 obtain⟨ints,tables,ar,_,_,ha,_,hv,_,x,hx,hl⟩:=h.vers
 obtain⟨b,e,_,h2,h3⟩:=hnames_good (ho.2 ar (mog ha)).2.1 c.vers 0 om hv
 refine⟨ar,ha,?_⟩
 have:=h3 x hx
 rw[show ar.length=b by omega]
 exact e
theorem comps_ix{f:PF}(h:GoodF f){i:Nat}(hi:i<f.comps.length):ixF (nC i) 0 (f.comps.map PC.name)=some i:=by
 obtain⟨ars,ho,hl,hc⟩:=h.comps
 have hs:=ho.1.2
 have nmc:∀j,j<f.comps.length→(f.comps.map PC.name)[j]?=some (nC j):=fun j hj=>by
  rw[List.getElem?_map,gge hj]
  exact congrArg some (hc j _ (gge hj)).name
 rw[ixF_at (j:=i) (nmc i hi) fun j hj he=>?_,Nat.zero_add]
 rw[nmc j om]at he
 have:=nC_inj om om (Option.some.inj he)
 omega
theorem tgF_good{ars:List (List Nat)}{flags:Nat}(ho:arsOk ars){to h n:Nat}{ar:List Nat}(ht:ars[to]?=some ar)(hh:ar[h]?=some n):∀(l:List PC) (k:Nat),k≤to→to<k+l.length→k+l.length≤3→(∀j c,l[j]?=some c→GoodC flags ars (k+j) c)→tgF (nC to) (nm 104 h) k l=((to:Int),(h:Int))
 |[],k,h1,h2,_,_=>by rw[ln0]at h2;omega
 | c ::r,k,h1,h2,h3,hg=>by
   rw[lc1]at h2 h3
   have h0:=hg 0 c rfl
   rw[Nat.add_zero]at h0
   rw[tgF,h0.name]
   by_cases e:k=to
   · subst e
     obtain⟨ar',ha',hn⟩:=h0.hnames ho
     have:ar'=ar:=by rw[ht]at ha';exact(Option.some.inj ha').symm
     subst this
     have hlt:=(List.getElem?_eq_some_iff.1 hh).1
     have h33:=(ho.2 ar' (mog ht)).2.1
     rw[if_pos rfl,hn,nms_ix (by decide) om hlt 0,Nat.zero_add]
   · rw[if_neg (fun x=>e (nC_inj om om x))]
     exact tgF_good ho ht hh r (k+1) om om om fun j c hj=>by
      rw[show k+1+j=k+(j+1) by omega];exact hg (j+1) c (by simpa using hj)
structure OkC(f:PF)(i:Nat)(c:PC)(ct:Ct)(ar:List Nat):Prop where
 ok:ct.Ok
 own:ct.own=i
 arr:ct.ars[i]?=some ar
 flags:f.flags.map Fg.name=nms 102 ct.flags
 vars:c.vars=varsOf ct.ints ct.tables
 name:c.name=nC i
 vers:∀v∈c.vers,GoodV ct ar v
 hn:hnames c.vers=nms 104 ar.length
 tg:∀(to:Nat) (a:List Nat) (h n:Nat),ct.ars[to]?=some a→a[h]?=some n→tgF (nC to) (nm 104 h) 0 f.comps=((to:Int),(h:Int))
 cix:∀to:Nat,to<ct.ars.length→ixF (nC to) 0 (f.comps.map PC.name)=some to
 hall:∀(to:Nat) (a:List Nat),ct.ars[to]?=some a→(f.comps.map fun c=>hnames c.vers)[to]?=some (nms 104 a.length)
theorem GoodF.okC{f:PF}(h:GoodF f){i:Nat}{c:PC}(hc:f.comps[i]?=some c):∃ct ar,OkC f i c ct ar:=by
 obtain⟨ars,ho,hl,hg⟩:=h.comps
 have g:=hg i c hc
 obtain⟨ints,tables,ar,hi,ht,ha,hv,hvs,hvn,hx⟩:=g.vers
 obtain⟨ar',ha',hn⟩:=g.hnames ho
 have:ar'=ar:=by rw[ha]at ha';exact(Option.some.inj ha').symm
 subst this
 refine⟨⟨ints,tables,f.flags.length,i,ars⟩,ar',⟨⟨hi,ht,h.flags.1,(List.getElem?_eq_some_iff.1 ha).1,ho.1.2,ho.2⟩,rfl,ha,h.flags.2,hv,g.name,hvs,hn,fun to a x n h1 h2=>?_,fun to hto=>?_,fun to a h1=>?_⟩⟩
 · have h7:to<ars.length:=(List.getElem?_eq_some_iff.1 h1).1
   have h8:=ho.1.2
   exact tgF_good ho h1 h2 f.comps 0 om om om fun j c hj=>by rw[Nat.zero_add];exact hg j c hj
 · have hto:to<ars.length:=hto
   exact comps_ix h om
 · have hlt:to<f.comps.length:=by rw[hl];exact(List.getElem?_eq_some_iff.1 h1).1
   obtain⟨a2,hb,hn2⟩:=(hg to _ (gge hlt)).hnames ho
   rw[List.getElem?_map,gge hlt]
   rw[h1]at hb
   rw[Option.some.inj hb]
   exact congrArg some hn2
theorem OkC.isR{f:PF}{i:Nat}{c:PC}{ct:Ct}{ar:List Nat}(h:OkC f i c ct ar){np:Nat}(hnp:np≤2):(ccR f c.name c.vars (nms 112 np)).Is ct np:=by
 have hi:=h.ok.ints
 have hf:=h.ok.flags
 have ht:=h.ok.tables
 have sl:∀s tab,slI c.vars s tab=oI (ixF s 0 (varN (varsOf ct.ints ct.tables) tab)):=fun s tab=>by unfold slI;rw[h.vars,slF_ix]
 have slx:∀k,k<ct.ints→slI c.vars (nm 120 k) false=(k:Int):=fun k hk=>by
  rw[sl,varN_int,ixF_at (j:=k) (by rw[List.getElem?_append_left (by rw[nms_len];exact hk)];exact nms_get hk) fun j hj he=>by
   rw[List.getElem?_append_left (by rw[nms_len];omega),nms_get om]at he
   have:=(nm_inj (by decide) (by decide) om om (Option.some.inj he)).2
   omega,Nat.zero_add]
  rfl
 have slb:slI c.vars nB0 false=(ct.ints:Int):=by
  rw[sl,varN_int,ixF_at (j:=ct.ints) (by rw[List.getElem?_append_right (by rw[nms_len];exact Nat.le_refl _),nms_len,Nat.sub_self];rfl) fun j hj he=>by
   rw[List.getElem?_append_left (by rw[nms_len];omega),nms_get om]at he
   have:=(nm_inj (by decide) (by decide) om om ((Option.some.inj he).trans nB0_nm)).1
   omega,Nat.zero_add]
  rfl
 refine⟨fun k hk=>?_,?_,fun k hk=>?_,fun k hk=>?_,slx,slb,fun h0=>?_,fun to a x n h1 h2=>h.tg to a x n h1 h2,fun a x n h1 h2=>?_⟩
 · show(match ixF _ 0 (nms 112 np)with|some k=>(⟨3,(k:Int),0,0⟩:Ins)|none=>match ixF _ 0 (f.flags.map Fg.name)with|some k=>⟨4,(k:Int),0,0⟩|none=>⟨2,slI c.vars _ false,0,0⟩)=_
   rw[ixF_none (nms_not (by decide) (by decide) om om (by decide)),h.flags,ixF_none (nms_not (by decide) (by decide) om om (by decide))]
   simp only[slx k hk]
 · show(match ixF _ 0 (nms 112 np)with|some k=>(⟨3,(k:Int),0,0⟩:Ins)|none=>match ixF _ 0 (f.flags.map Fg.name)with|some k=>⟨4,(k:Int),0,0⟩|none=>⟨2,slI c.vars _ false,0,0⟩)=_
   rw[ixF_none (by rw[nB0_nm];exact nms_not (by decide) (by decide) om om (by decide)),h.flags,ixF_none (by rw[nB0_nm];exact nms_not (by decide) (by decide) om om (by decide))]
   simp only[slb]
 · show(match ixF _ 0 (nms 112 np)with|some k=>(⟨3,(k:Int),0,0⟩:Ins)|none=>match ixF _ 0 (f.flags.map Fg.name)with|some k=>⟨4,(k:Int),0,0⟩|none=>⟨2,slI c.vars _ false,0,0⟩)=_
   rw[nms_ix (by decide) om hk 0,Nat.zero_add]
 · show(match ixF _ 0 (nms 112 np)with|some k=>(⟨3,(k:Int),0,0⟩:Ins)|none=>match ixF _ 0 (f.flags.map Fg.name)with|some k=>⟨4,(k:Int),0,0⟩|none=>⟨2,slI c.vars _ false,0,0⟩)=_
   rw[ixF_none (nms_not (by decide) (by decide) om om (by decide)),h.flags,nms_ix (by decide) om hk 0,Nat.zero_add]
 · show slI c.vars nT0 true=0
   rw[sl,varN_tab,show ct.tables=1 by omega]
   rfl
 · show(tgF c.name (nm 104 x) 0 f.comps).2=(x:Int)
   rw[h.name,h.tg i a x n (by rw[←h.own];exact h1) h2]
theorem OkC.isP{f:PF}{i:Nat}{c:PC}{ct:Ct}{ar:List Nat}(h:OkC f i c ct ar){np:Nat}(hnp:np≤2):(ccP f i c.vars (nms 112 np)).Is ct np:=by
 have hi:=h.ok.ints
 have hf:=h.ok.flags
 have ht:=h.ok.tables
 have vx:∀k,k<ct.ints→ixF (nm 120 k) 0 (varN c.vars false)=some k:=fun k hk=>by
  rw[h.vars,varN_int,ixF_at (j:=k) (by rw[List.getElem?_append_left (by rw[nms_len];exact hk)];exact nms_get hk) fun j hj he=>by
   rw[List.getElem?_append_left (by rw[nms_len];omega),nms_get om]at he
   have:=(nm_inj (by decide) (by decide) om om (Option.some.inj he)).2
   omega,Nat.zero_add]
 have vb:ixF nB0 0 (varN c.vars false)=some ct.ints:=by
  rw[h.vars,varN_int,ixF_at (j:=ct.ints) (by rw[List.getElem?_append_right (by rw[nms_len];exact Nat.le_refl _),nms_len,Nat.sub_self];rfl) fun j hj he=>by
   rw[List.getElem?_append_left (by rw[nms_len];omega),nms_get om]at he
   have:=(nm_inj (by decide) (by decide) om om ((Option.some.inj he).trans nB0_nm)).1
   omega,Nat.zero_add]
 have vf:∀k,k<ct.flags→ixF (nm 102 k) 0 (varN c.vars false)=none:=fun k hk=>by
  rw[h.vars,varN_int]
  refine ixF_none fun hm=>?_
  rcases List.mem_append.1 hm with hm|hm
  ·exact nms_not (by decide) (by decide) om om (by decide) hm
  · have:=(nm_inj (by decide) (by decide) om om ((List.mem_singleton.1 hm).trans nB0_nm)).1
    omega
 have np0:∀d k,d<256→k<200→112≠d→ixF (nm d k) 0 (nms 112 np)=none:=fun d k hd hk hne=>ixF_none (nms_not (by decide) hd om hk hne)
 refine⟨fun k hk=>?_,?_,fun k hk=>?_,fun k hk=>?_,fun k hk=>?_,?_,fun h0=>?_,fun to a x n h1 h2=>?_,fun a x n h1 h2=>?_⟩
 · show(match ixF _ 0 (nms 112 np)with|some k=>(⟨3,(k:Int),0,0⟩:Ins)|none=>match ixF _ 0 (varN c.vars false)with|some k=>⟨2,(k:Int),0,0⟩|none=>⟨4,_,0,0⟩)=_
   rw[np0 120 k (by decide) om (by decide),vx k hk]
 · show(match ixF _ 0 (nms 112 np)with|some k=>(⟨3,(k:Int),0,0⟩:Ins)|none=>match ixF _ 0 (varN c.vars false)with|some k=>⟨2,(k:Int),0,0⟩|none=>⟨4,_,0,0⟩)=_
   rw[vb,nB0_nm,np0 98 0 (by decide) om (by decide)]
 · show(match ixF _ 0 (nms 112 np)with|some k=>(⟨3,(k:Int),0,0⟩:Ins)|none=>match ixF _ 0 (varN c.vars false)with|some k=>⟨2,(k:Int),0,0⟩|none=>⟨4,_,0,0⟩)=_
   rw[nms_ix (by decide) om hk 0,Nat.zero_add]
 · show(match ixF _ 0 (nms 112 np)with|some k=>(⟨3,(k:Int),0,0⟩:Ins)|none=>match ixF _ 0 (varN c.vars false)with|some k=>⟨2,(k:Int),0,0⟩|none=>⟨4,oI (ixF _ 0 (f.flags.map Fg.name)),0,0⟩)=_
   rw[np0 102 k (by decide) om (by decide),vf k hk,h.flags,nms_ix (by decide) om hk 0,Nat.zero_add]
   rfl
 ·show oI (ixF _ 0 (varN c.vars false))=_;rw[vx k hk];rfl
 ·show oI (ixF _ 0 (varN c.vars false))=_;rw[vb];rfl
 · show oI (ixF nT0 0 (varN c.vars true))=0
   rw[h.vars,varN_tab,show ct.tables=1 by omega];rfl
 · have hlt:=(List.getElem?_eq_some_iff.1 h1).1
   have hxl:=(List.getElem?_eq_some_iff.1 h2).1
   have h33:=(h.ok.each a (mog h1)).2.1
   show(oI (ixF (nC to) 0 (f.comps.map PC.name)),oI (ixF (nm 104 x) 0 (((f.comps.map fun c=>hnames c.vers)[(oI (ixF (nC to) 0 (f.comps.map PC.name))).toNat]?).getD [])))=_
   rw[h.cix to hlt]
   show((to:Int),oI (ixF (nm 104 x) 0 (((f.comps.map fun c=>hnames c.vers)[to]?).getD [])))=_
   rw[h.hall to a h1]
   show((to:Int),oI (ixF (nm 104 x) 0 (nms 104 a.length)))=_
   rw[nms_ix (by decide) om hxl 0,Nat.zero_add];rfl
 · have hxl:=(List.getElem?_eq_some_iff.1 h2).1
   have h33:=(h.ok.each a (mog h1)).2.1
   show oI (ixF (nm 104 x) 0 (((f.comps.map fun c=>hnames c.vers)[i]?).getD []))=_
   rw[h.own]at h1
   rw[h.hall i a h1]
   show oI (ixF (nm 104 x) 0 (nms 104 a.length))=_
   rw[nms_ix (by decide) om hxl 0,Nat.zero_add];rfl
end Go.Proofs.YtlihklladkagpaaGreatDoor

/- Merged out of H1, H2, H3, H4, H6 by merge.py. Own text. -/
import Derived.Test.YtihgdnjkofpgiaaGreatDoorGb
set_option linter.unusedVariables false
set_option linter.unusedSimpArgs false
namespace Go.Proofs.YtihgdnjkofpgiaaGreatDoor
open Go.RowKit Go.Flow Go.Mem Go.Sep Go.In
theorem goH_app:∀(l m:List Ins) (i:Nat) (h:List Int) (top:Int),goH i (l++m) h top=(goH i l h top).bind fun p=>goH (i+l.length) m p.1 p.2
 |[],m,i,h,top=>rfl
 | x ::r,m,i,h,top=>by
   show((stepH h top i x).bind fun p=>goH (i+1) (r++m) p.1 p.2)=((stepH h top i x).bind fun p=>goH (i+1) r p.1 p.2).bind _
   cases stepH h top i x with
   |none=>rfl
   | some p=>
     show goH (i+1) (r++m) p.1 p.2=(goH (i+1) r p.1 p.2).bind _
     rw[goH_app r m,show i+(x::r).length=i+1+r.length from by rw[lc1];omega]
theorem gs_eq{h:List Int}{i:Nat}{v:Int}(hi:i<h.length):(h.set i v).getD i 0=v:=by
 rw[List.getD_eq_getElem?_getD,List.getElem?_set_self hi];rfl
theorem gs_ne{h:List Int}{i j:Nat}{v:Int}(hi:i≠j):(h.set i v).getD j 0=h.getD j 0:=by
 rw[List.getD_eq_getElem?_getD,List.getElem?_set_ne hi,←List.getD_eq_getElem?_getD]
theorem step1{L:Nat}{h:List Int}{top m:Int}{i:Nat}{x:Ins}(hl:h.length=L+1)(hi:i<L)(ho:1≤x.op∧x.op≤34)(hj:(tgt x).isSome=false)(h27:x.op≠27∧x.op≠34)
    (hm:max (h.getD i 0) 0=m) (hp:mvP x≤m) (hn:okH (h.getD (i+1) 0) (m-mvP x+mvQ x)):
    ∃h',stepH h top i x=some (h',max (max top m) (m-mvP x+mvQ x))∧h'.length=L+1∧h'.getD i 0=m∧h'.getD (i+1) 0=m-mvP x+mvQ x∧∀j,j≠i→j≠i+1→h'.getD j 0=h.getD j 0:=by
 obtain⟨ep,eq⟩:=moves_eq ho.1 ho.2
 refine⟨(h.set i m).set (i+1) (m-mvP x+mvQ x),?_,by rw[List.length_set,List.length_set];exact hl,?_,?_,?_⟩
 · unfold stepH nextH jumpH aftH
   simp only[hm,ep,eq]
   rw[if_neg (by omega),if_pos (by omega),gs_ne (by omega),if_pos hn]
   simp only[Option.bind_some]
   rw[if_neg (by rw[hj];exact Bool.false_ne_true)]
   rfl
 ·rw[gs_ne (by omega),gs_eq (by omega)]
 ·rw[gs_eq (by rw[List.length_set];omega)]
 · intro j h1 h2
   rw[gs_ne (fun e=>h2 e.symm),gs_ne (fun e=>h1 e.symm)]
inductive WfE:Nat→PE→Prop
 |leaf (d op:Nat) (s:ByteArray) (n:Int) (h:(1≤op∧op≤5)∨op=8):WfE d ⟨op,s,n,[]⟩
 |un (d op:Nat) (s:ByteArray) (n:Int) (a:PE) (h:op=6∨op=7∨op=9∨op=10) (ha:WfE d a):WfE (d+1) ⟨op,s,n,[a]⟩
 |bin (d op:Nat) (s:ByteArray) (n:Int) (a b:PE) (h:11≤op∧op≤23) (ha:WfE d a) (hb:WfE d b):WfE (d+1) ⟨op,s,n,[a,b]⟩
theorem WfE.up{d d':Nat}{e:PE}(h:WfE d e)(hd:d≤d'):WfE d' e:=by
 induction h generalizing d' with
 |leaf d op s n h=>exact .leaf _ _ _ _ h
 |un d op s n a h _ ih=>obtain⟨k,rfl⟩:∃k,d'=k+1:=⟨d'-1,by omega⟩;exact .un _ _ _ _ _ h (ih (by omega))
 |bin d op s n a b h _ _ iha ihb=>obtain⟨k,rfl⟩:∃k,d'=k+1:=⟨d'-1,by omega⟩;exact .bin _ _ _ _ _ _ h (iha (by omega)) (ihb (by omega))
theorem tgt_low{x:Ins}(h:x.op≤26∨x.op=29∨x.op=30∨x.op=31):(tgt x).isSome=false:=by
 unfold tgt;rw[if_neg (by omega),if_neg (by omega)];rfl
def Ups(L i n:Nat)(k b:Int)(l:List Ins):Prop:=∀(h:List Int) (top v:Int),h.length=L+1→i+n≤L→max (h.getD i 0) 0=v→(∀j,i<j→j≤i+n→h.getD j 0=-1)→
 ∃h' top',goH i l h top=some (h',top')∧h'.length=L+1∧max (h'.getD (i+n) 0) 0=v+k∧(∀j,i+n<j→h'.getD j 0=h.getD j 0)∧(∀j,j<i→h'.getD j 0=h.getD j 0)∧(0<n→h'.getD i 0=v)∧top≤top'∧top'≤max top (v+b)
theorem Ups.nil(L i:Nat){b:Int}:Ups L i 0 0 b []:=fun h top v hl hi hm hj=>⟨h,top,rfl,hl,by rw[Nat.add_zero,hm];omega,fun j _=>rfl,fun j _=>rfl,fun h=>absurd h (by omega),Int.le_refl _,by omega⟩
theorem Ups.app{L i n n':Nat}{k k' b b' c:Int}{l m:List Ins}(h1:Ups L i n k b l)(hn:l.length=n)(h2:Ups L (i+n) n' k' b' m)(hk:0≤k)(hb:b≤c)(hb':k+b'≤c):Ups L i (n+n') (k+k') c (l++m):=fun h top v hl hi hm hj=>by
 obtain⟨h',top',e,hl',hm',ha,hb1,hc,ht,ht'⟩:=h1 h top v hl (by omega) hm (fun j a b=>hj j a (by omega))
 obtain⟨h'',top'',e',hl'',hm'',ha',hb2,hc',ht2,ht2'⟩:=h2 h' top' (v+k) hl' (by omega) hm' (fun j a b=>by rw[ha j a];exact hj j (by omega) (by omega))
 refine⟨h'',top'',by rw[goH_app,e,hn];exact e',hl'',by rw[←Nat.add_assoc,hm''];omega,fun j hj'=>by rw[ha' j (by omega),ha j (by omega)],fun j hj'=>by rw[hb2 j (by omega),hb1 j hj'],fun h0=>?_,by omega,by omega⟩
 by_cases hz:0<n
 ·rw[hb2 i (by omega)];exact hc hz
 · have e0:n=0:=by omega
   subst e0
   have hk0:l=[]:=List.eq_nil_of_length_eq_zero hn
   subst hk0
   have hh:h'=h:=by injection e with e;injection e with e1 e2;exact e1.symm
   subst hh
   have hz:v+k=v:=by rw[Nat.add_zero]at hm';omega
   rw[←hz];exact hc' (by omega)
theorem Ups.one{L i:Nat}{x:Ins}{b:Int}(ho:1≤x.op∧x.op≤23)(p:Nat)(hq:mvQ x=1)(hb:1≤b):
    ∀(h:List Int) (top v:Int),mvP x=p→h.length=L+1→i+1≤L→max (h.getD i 0) 0=v+p→0≤v→h.getD (i+1) 0=-1→
     ∃h' top',goH i [x] h top=some (h',top')∧h'.length=L+1∧max (h'.getD (i+1) 0) 0=v+1∧(∀j,i+1<j→h'.getD j 0=h.getD j 0)∧(∀j,j<i→h'.getD j 0=h.getD j 0)∧h'.getD i 0=v+p∧top≤top'∧top'≤max top (max (v+p) (v+1)):=fun h top v hp hl hi hm hv hj=>by
 obtain⟨h',e,hl',a,b',c⟩:=step1 (top:=top) hl (by omega) ⟨ho.1,by omega⟩ (tgt_low (.inl (by omega))) ⟨by omega,by omega⟩ hm (by omega) (by rw[hj];unfold okH;omega)
 refine⟨h',_,by unfold goH;rw[e];rfl,hl',?_,fun j hj=>c j (by omega) (by omega),fun j hj=>c j (by omega) (by omega),a,by omega,by rw[hp,hq];omega⟩
 rw[b',hp,hq];omega
def Zr(h:List Int)(j:Nat):Prop:=h.getD j 0=-1∨h.getD j 0=0
structure Pre(L:Nat)(h:List Int)(p n:Nat):Prop where
 len:h.length=L+1
 le:p+n≤L
 at0:Zr h p
 mid:∀j,p<j→j<p+n→h.getD j 0=-1
 fin:Zr h (p+n)
structure Pst(L:Nat)(h h':List Int)(p n:Nat):Prop where
 len:h'.length=L+1
 fin:Zr h' (p+n)
 hi:∀j,p+n<j→h'.getD j 0=h.getD j 0
 lo:∀j,j<p→h'.getD j 0=h.getD j 0
 at0:0<n→h'.getD p 0=0
def Blk(L p:Nat)(l:List Ins):Prop:=∀h top,0≤top→Pre L h p l.length→∃h' top',goH p l h top=some (h',top')∧Pst L h h' p l.length∧top≤top'∧top'≤max top 10
theorem Zr.of{h h':List Int}{j:Nat}(e:h'.getD j 0=h.getD j 0)(z:Zr h j):Zr h' j:=by unfold Zr at*;rw[e];exact z
theorem Blk.nil(L p:Nat):Blk L p []:=fun h top ht hp=>⟨h,top,rfl,⟨hp.len,hp.fin,fun _ _=>rfl,fun _ _=>rfl,fun h=>absurd h (by decide)⟩,Int.le_refl _,by omega⟩
theorem Blk.app{L p:Nat}{l m:List Ins}(h1:Blk L p l)(h2:Blk L (p+l.length) m):Blk L p (l++m):=fun h top ht hp=>by
 have hn:(l++m).length=l.length+m.length:=lap
 have le:=hp.le
 have mid:=hp.mid
 have fin:=hp.fin
 rw[hn]at le mid fin⊢
 have q1:Pre L h p l.length:=⟨hp.len,by omega,hp.at0,fun j a b=>mid j a (by omega),by
  by_cases z:l.length=0
  ·rw[z];exact hp.at0
  by_cases z2:m.length=0
  ·rw[z2]at fin;exact fin
  exact .inl (mid _ (by omega) (by omega))⟩
 obtain⟨h',t',e1,s1,a1,b1⟩:=h1 h top ht q1
 have q2:Pre L h' (p+l.length) m.length:=⟨s1.len,by omega,s1.fin,fun j a b=>by rw[s1.hi j a];exact mid j (by omega) (by omega),by
  by_cases z:m.length=0
  ·rw[z];exact s1.fin
  · refine Zr.of (s1.hi _ (by omega)) ?_
    rw[Nat.add_assoc];exact fin⟩
 obtain⟨h'',t'',e2,s2,a2,b2⟩:=h2 h' t' (by omega) q2
 refine⟨h'',t'',by rw[goH_app,e1];exact e2,⟨s2.len,by rw[←Nat.add_assoc];exact s2.fin,fun j hj=>by rw[s2.hi j (by omega),s1.hi j (by omega)],fun j hj=>by rw[s2.lo j (by omega),s1.lo j hj],fun hz=>?_⟩,by omega,by omega⟩
 by_cases z:0<l.length
 ·rw[s2.lo p (by omega)];exact s1.at0 z
 · have z0:l.length=0:=by omega
   rw[z0]at s2
   exact s2.at0 (by omega)
def hdC(c:Cc)(es:List PE):List Ins:=(⟨29,0,0,0⟩:Ins)::cEs c es
inductive WfS:PS→Prop
 |one (k:Nat) (s h:ByteArray) (es:List PE) (hk:(k=1∧es.length=1)∨(k=2∧es.length=2)∨(k=3∧es.length=1)∨(k=6∧es.length≤4)∨(k=7∧1≤es.length∧es.length≤5)) (he:∀e∈es,WfE 5 e):WfS ⟨k,s,h,es,[],[]⟩
 |ife (s h:ByteArray) (a:PE) (t e:List PS) (ha:WfE 5 a) (ht:∀x∈t,WfS x) (he:∀x∈e,WfS x):WfS ⟨4,s,h,[a],t,e⟩
 |whl (s h:ByteArray) (a:PE) (t:List PS) (ha:WfE 5 a) (ht:∀x∈t,WfS x):WfS ⟨5,s,h,[a],t,[]⟩
 |sto (s h:ByteArray) (a b:PE) (e:List PS) (ha:WfE 5 a) (hb:WfE 5 b) (he:∀x∈e,WfS x):WfS ⟨8,s,h,[a,b],[],e⟩
 |fet (s h:ByteArray) (a:PE) (e:List PS) (ha:WfE 5 a) (he:∀x∈e,WfS x):WfS ⟨9,s,h,[a],[],e⟩
 |stop (s h:ByteArray):WfS ⟨10,s,h,[],[],[]⟩
theorem one1{P:PE→Prop}{a:PE}(h:P a):∀e∈[a],P e:=fun e he=>by rw[List.mem_singleton.1 he];exact h
theorem two2{P:PE→Prop}{a b:PE}(h:P a)(k:P b):∀e∈[a,b],P e:=fun e he=>by
 rcases List.mem_cons.1 he with rfl|he
 ·exact h
 ·rw[List.mem_singleton.1 he];exact k
theorem opI_len(c:Cc)(op:Nat)(s:ByteArray)(n:Int)(l:List Ins):(l++[opI c op s n]).length=l.length+1:=by rw[lap];rfl
theorem WfE.len{c:Cc}{d:Nat}{e:PE}(h:WfE d e):(cE c e).length<2^(d+1):=by
 induction h with
 | leaf d op s n h=>
   show(([]:List Ins)++[opI c op s n]).length<_
   have:1≤2^d:=Nat.one_le_two_pow
   rw[opI_len,Nat.pow_succ];show 0+1<_;omega
 | un d op s n a h ha ih=>
   show((cE c a++[])++[opI c op s n]).length<_
   have:1≤2^d:=Nat.one_le_two_pow
   rw[opI_len,List.append_nil]
   rw[Nat.pow_succ]at ih
   rw[Nat.pow_succ,Nat.pow_succ];omega
 | bin d op s n a b h ha hb iha ihb=>
   show((cE c a++(cE c b++[]))++[opI c op s n]).length<_
   rw[opI_len,List.append_nil,lap,Nat.pow_succ];omega
structure Cc.Is(cc:Cc)(c:Ct)(np:Nat):Prop where
 ldx:∀k,k<c.ints→cc.pn (nm 120 k)=⟨2,(k:Int),0,0⟩
 ldb:cc.pn nB0=⟨2,(c.ints:Int),0,0⟩
 ldp:∀k,k<np→cc.pn (nm 112 k)=⟨3,(k:Int),0,0⟩
 ldf:∀k,k<c.flags→cc.pn (nm 102 k)=⟨4,(k:Int),0,0⟩
 vsx:∀k,k<c.ints→cc.vs (nm 120 k)=(k:Int)
 vsb:cc.vs nB0=(c.ints:Int)
 ts:0<c.tables→cc.ts nT0=0
 tg:∀to ar h n,c.ars[to]?=some ar→ar[h]?=some n→cc.tg (nC to) (nm 104 h)=((to:Int),(h:Int))
 ah:∀ar h n,c.ars[c.own]?=some ar→ar[h]?=some n→cc.ah (nm 104 h)=(h:Int)
structure Each(c:Ct)(np:Nat)(Q:Ins→Prop):Prop where
 one:∀n:Int,0≤n→n<9→Q ⟨1,0,0,n⟩
 plain:∀op:Nat,op=5∨(9≤op∧op≤23)∨op=29∨op=34→Q ⟨op,0,0,0⟩
 ldx:∀k:Nat,k≤c.ints→Q ⟨2,(k:Int),0,0⟩
 ldp:∀k:Nat,k<np→Q ⟨3,(k:Int),0,0⟩
 ldf:∀k:Nat,k<c.flags→Q ⟨4,(k:Int),0,0⟩
 stx:∀k:Nat,k≤c.ints→Q ⟨24,(k:Int),0,0⟩
 tab:∀op:Nat,0<c.tables→(6≤op∧op≤8)∨op=25∨op=26→Q ⟨op,0,0,0⟩
 send:∀to h n:Nat,to<3→h<3→n≤2→Q ⟨30,(to:Int),(h:Int),(n:Int)⟩
 after:∀h n:Nat,h<3→n≤2→Q ⟨31,0,(h:Int),(n:Int)⟩
def AllQ(Q:Ins→Prop)(l:List Ins):Prop:=∀x∈l,Q x
theorem AllQ.nil{Q:Ins→Prop}:AllQ Q []:=fun _ h=>by cases h
theorem AllQ.cons{Q:Ins→Prop}{x:Ins}{l:List Ins}(h:Q x)(hl:AllQ Q l):AllQ Q (x::l):=fun y hy=>by
 rcases List.mem_cons.1 hy with rfl|hy
 ·exact h
 ·exact hl y hy
theorem AllQ.app{Q:Ins→Prop}{l m:List Ins}(h:AllQ Q l)(hm:AllQ Q m):AllQ Q (l++m):=fun y hy=>(List.mem_append.1 hy).elim (h y) (hm y)
theorem AllQ.le{Q:Ins→Prop}{l:List Ins}(h:AllQ Q l){x:Ins}(hx:x∈l):Q x:=h x hx
theorem IntE.all{cc:Cc}{c:Ct}{np d:Nat}{e:PE}{Q:Ins→Prop}(hq:Each c np Q)(hc:cc.Is c np)(h:IntE c np d e):AllQ Q (cE cc e):=by
 induction h with
 |num d n h=>exact .cons (hq.one (n:Int) (by omega) (by omega)) .nil
 |var d k h=>exact .cons (by show Q (cc.pn _);rw[hc.ldx k h];exact hq.ldx k (by omega)) .nil
 |par d k h=>exact .cons (by show Q (cc.pn _);rw[hc.ldp k h];exact hq.ldp k h) .nil
 |now d=>exact .cons (hq.plain 5 (by omega)) .nil
 |get d e ht h ih=>exact .app (.app ih .nil) (.cons (by show Q ⟨6,cc.ts nT0,0,0⟩;rw[hc.ts ht];exact hq.tab 6 ht (by omega)) .nil)
 |size d ht=>exact .cons (by show Q ⟨8,cc.ts nT0,0,0⟩;rw[hc.ts ht];exact hq.tab 8 ht (by omega)) .nil
 |neg d e h ih=>exact .app (.app ih .nil) (.cons (hq.plain 9 (by omega)) .nil)
 | bin d op a b ho ha hb iha ihb=>
   refine .app (.app iha (.app ihb .nil)) (.cons ?_ .nil)
   unfold opI
   rw[if_neg (by omega),if_neg (by omega),if_neg (by omega),if_neg (by omega),if_neg (by omega),if_neg (by omega)]
   exact hq.plain op (by omega)
theorem TruE.all{cc:Cc}{c:Ct}{np d:Nat}{e:PE}{Q:Ins→Prop}(hq:Each c np Q)(hc:cc.Is c np)(h:TruE c np d e):AllQ Q (cE cc e):=by
 induction h with
 | tf d op h=>
   rcases h with rfl|rfl
   ·exact .cons (hq.one 1 (by decide) (by decide)) .nil
   ·exact .cons (hq.one 0 (by decide) (by decide)) .nil
 |b0 d=>exact .cons (by show Q (cc.pn _);rw[hc.ldb];exact hq.ldx _ (Nat.le_refl _)) .nil
 |flag d k h=>exact .cons (by show Q (cc.pn _);rw[hc.ldf k h];exact hq.ldf k h) .nil
 |has d e ht h=>exact .app (.app (h.all hq hc) .nil) (.cons (by show Q ⟨7,cc.ts nT0,0,0⟩;rw[hc.ts ht];exact hq.tab 7 ht (by omega)) .nil)
 |not d e h ih=>exact .app (.app ih .nil) (.cons (hq.plain 10 (by omega)) .nil)
 | two d op a b ho ha hb iha ihb=>
   refine .app (.app iha (.app ihb .nil)) (.cons ?_ .nil)
   unfold opI
   rw[if_neg (by omega),if_neg (by omega),if_neg (by omega),if_neg (by omega),if_neg (by omega),if_neg (by omega)]
   exact hq.plain op (by omega)
 | cmp d op a b ho ha hb=>
   refine .app (.app (ha.all hq hc) (.app (hb.all hq hc) .nil)) (.cons ?_ .nil)
   unfold opI
   rw[if_neg (by omega),if_neg (by omega),if_neg (by omega),if_neg (by omega),if_neg (by omega),if_neg (by omega)]
   exact hq.plain op (by omega)
theorem cEs_all{cc:Cc}{Q:Ins→Prop}:∀{l:List PE},(∀e∈l,AllQ Q (cE cc e))→AllQ Q (cEs cc l)
 |[],_=> .nil
 |e::r,h=> .app (h e (List.mem_cons_self ..)) (cEs_all fun x hx=>h x (List.mem_cons_of_mem _ hx))
theorem ovr_all{Q:Ins→Prop}{p:Nat}{e:List Ins}{b:Bool}(h:b=false→Q ⟨27,((p+1+e.length:Nat):Int),0,0⟩)(he:AllQ Q e):AllQ Q (ovr p e b):=by
 cases b
 ·exact .cons (h rfl) he
 ·exact .nil
structure EachJ(n:Nat)(ints:Nat)(Q:Ins→Prop):Prop where
 jump:∀op t:Nat,op=27∨op=28→t≤n→Q ⟨op,(t:Int),0,0⟩
 store:∀t:Nat,t≤n→Q ⟨32,0,(t:Int),0⟩
 fetch:∀k t:Nat,k≤ints→t≤n→Q ⟨33,(k:Int),(t:Int),0⟩
theorem cB_all{cc:Cc}{Q:Ins→Prop}{n:Nat}:∀(l:List PS) (p:Nat),(∀s∈l,∀p,p+(cS cc s p).length≤n→AllQ Q (cS cc s p))→p+(cB cc l p).length≤n→AllQ Q (cB cc l p)
 |[],_,_,_=> .nil
 | s::r,p,h,hn=>by
   have hn:p+(cS cc s p++cB cc r (p+(cS cc s p).length)).length≤n:=hn
   rw[lap]at hn
   exact .app (h s (List.mem_cons_self ..) p (by omega)) (cB_all r _ (fun x hx=>h x (List.mem_cons_of_mem _ hx)) (by omega))
theorem StE.all{cc:Cc}{c:Ct}(hok:c.Ok){np d n:Nat}{s:PS}{Q:Ins→Prop}(hq:Each c np Q)(hj:EachJ n c.ints Q)(hc:cc.Is c np)(h:StE c np d s):∀p,p+(cS cc s p).length≤n→AllQ Q (cS cc s p):=by
 have cost:Q ⟨29,0,0,0⟩:=hq.plain 29 (by omega)
 induction h with
 |setB d e h=>intro p _;exact .app (.cons cost (.app (h.all hq hc) .nil)) (.cons (by show Q ⟨24,cc.vs nB0,0,0⟩;rw[hc.vsb];exact hq.stx _ (Nat.le_refl _)) .nil)
 |setX d k e hk h=>intro p _;exact .app (.cons cost (.app (h.all hq hc) .nil)) (.cons (by show Q ⟨24,cc.vs (nm 120 k),0,0⟩;rw[hc.vsx k hk];exact hq.stx k (by omega)) .nil)
 |put d a b ht ha hb=>intro p _;exact .app (.cons cost (.app (ha.all hq hc) (.app (hb.all hq hc) .nil))) (.cons (by show Q ⟨25,cc.ts nT0,0,0⟩;rw[hc.ts ht];exact hq.tab 25 ht (by omega)) .nil)
 |del d a ht ha=>intro p _;exact .app (.cons cost (.app (ha.all hq hc) .nil)) (.cons (by show Q ⟨26,cc.ts nT0,0,0⟩;rw[hc.ts ht];exact hq.tab 26 ht (by omega)) .nil)
 | ife d e t l h ht hl iht ihl=>
   intro p
   obtain⟨r,hr⟩:∃r,p+(hdC cc [e]).length+1=r:=⟨_,rfl⟩
   have e0:cS cc ⟨4,nE,nE,[e],t,l⟩ p=hdC cc [e]++⟨28,((r+(cB cc t r).length+(if l.isEmpty then 0 else 1):Nat):Int),0,0⟩::(cB cc t r++ovr (r+(cB cc t r).length) (cB cc l (r+(cB cc t r).length+1)) l.isEmpty):=by rw[←hr];rfl
   rw[e0,lap,lc1,lap]
   intro hn
   have hov:l.isEmpty=false→(ovr (r+(cB cc t r).length) (cB cc l (r+(cB cc t r).length+1)) l.isEmpty).length=(cB cc l (r+(cB cc t r).length+1)).length+1:=fun hb=>by rw[hb];rfl
   refine .app (.cons cost (.app (h.all hq hc) .nil)) (.cons (hj.jump 28 _ (by omega) ?_) (.app (cB_all t r iht (by omega)) ?_))
   · cases hb:l.isEmpty with
     |true=>rw[if_pos rfl];omega
     |false=>rw[if_neg Bool.false_ne_true];have:=hov hb;omega
   · cases hb:l.isEmpty with
     |true=>exact .nil
     | false=>
       have:=hov hb
       exact ovr_all (fun _=>hj.jump 27 _ (by omega) (by omega)) (cB_all l _ ihl (by omega))
 | whl d e t h ht iht=>
   intro p
   obtain⟨r,hr⟩:∃r,p+(hdC cc [e]).length+1=r:=⟨_,rfl⟩
   have e0:cS cc ⟨5,nE,nE,[e],t,[]⟩ p=hdC cc [e]++⟨28,((r+(cB cc t r).length+1:Nat):Int),0,0⟩::(cB cc t r++[⟨27,((p:Nat):Int),0,0⟩]):=by rw[←hr];rfl
   rw[e0,lap,lc1,lap]
   have h7:[(⟨27,((p:Nat):Int),0,0⟩:Ins)].length=1:=rfl
   intro hn
   exact .app (.cons cost (.app (h.all hq hc) .nil)) (.cons (hj.jump 28 _ (by omega) (by omega)) (.app (cB_all t r iht (by omega)) (.cons (hj.jump 27 _ (by omega) (by omega)) .nil)))
 | send d to h ar l ha hh hl=>
   intro p _
   have h3:=hok.each ar (mog ha)
   have h2:=h3.2.2 _ (mog hh)
   have h4:=(List.getElem?_eq_some_iff.1 ha).1
   have h5:=(List.getElem?_eq_some_iff.1 hh).1
   have h6:=hok.some
   refine .app (.cons cost (cEs_all fun x hx=>(hl x hx).all hq hc)) (.cons ?_ .nil)
   show Q ⟨30,(cc.tg (nC to) (nm 104 h)).1,(cc.tg (nC to) (nm 104 h)).2,((l.length:Nat):Int)⟩
   rw[hc.tg to ar h _ ha hh]
   exact hq.send to h _ (by omega) (by omega) h2
 | after d h ar e l ha hh he hl=>
   intro p _
   have h3:=hok.each ar (mog ha)
   have h2:=h3.2.2 _ (mog hh)
   have h5:=(List.getElem?_eq_some_iff.1 hh).1
   refine .app (.cons cost (cEs_all fun x hx=>?_)) (.cons ?_ .nil)
   · rcases List.mem_cons.1 hx with rfl|hx
     ·exact he.all hq hc
     ·exact(hl x hx).all hq hc
   · show Q ⟨31,0,cc.ah (nm 104 h),(((e::l).length:Nat):Int)-1⟩
     rw[hc.ah ar h _ ha hh,show(((e::l).length:Nat):Int)-1=((l.length:Nat):Int)from by rw[lc1];omega]
     exact hq.after h _ (by omega) h2
 | store d a b l ha hb hl ihl=>
   intro p
   obtain⟨r,hr⟩:∃r,p+(hdC cc [a,b]).length+1=r:=⟨_,rfl⟩
   have e0:cS cc ⟨8,nE,nE,[a,b],[],l⟩ p=hdC cc [a,b]++⟨32,0,((r+(if l.isEmpty then 0 else 1):Nat):Int),0⟩::ovr r (cB cc l (r+1)) l.isEmpty:=by rw[←hr];rfl
   rw[e0,lap,lc1]
   intro hn
   have hov:l.isEmpty=false→(ovr r (cB cc l (r+1)) l.isEmpty).length=(cB cc l (r+1)).length+1:=fun hb=>by rw[hb];rfl
   refine .app (.cons cost (.app (ha.all hq hc) (.app (hb.all hq hc) .nil))) (.cons (hj.store _ ?_) ?_)
   · cases hb:l.isEmpty with
     |true=>rw[if_pos rfl];omega
     |false=>rw[if_neg Bool.false_ne_true];have:=hov hb;omega
   · cases hb:l.isEmpty with
     |true=>exact .nil
     | false=>
       have:=hov hb
       exact ovr_all (fun _=>hj.jump 27 _ (by omega) (by omega)) (cB_all l _ ihl (by omega))
 | fetch d k e l hk h hl ihl=>
   intro p
   obtain⟨r,hr⟩:∃r,p+(hdC cc [e]).length+1=r:=⟨_,rfl⟩
   have e0:cS cc ⟨9,nm 120 k,nE,[e],[],l⟩ p=hdC cc [e]++⟨33,cc.vs (nm 120 k),((r+(if l.isEmpty then 0 else 1):Nat):Int),0⟩::ovr r (cB cc l (r+1)) l.isEmpty:=by rw[←hr];rfl
   rw[e0,lap,lc1]
   intro hn
   have hov:l.isEmpty=false→(ovr r (cB cc l (r+1)) l.isEmpty).length=(cB cc l (r+1)).length+1:=fun hb=>by rw[hb];rfl
   refine .app (.cons cost (.app (h.all hq hc) .nil)) (.cons ?_ ?_)
   · rw[hc.vsx k hk]
     refine hj.fetch k _ (by omega) ?_
     cases hb:l.isEmpty with
     |true=>rw[if_pos rfl];omega
     |false=>rw[if_neg Bool.false_ne_true];have:=hov hb;omega
   · cases hb:l.isEmpty with
     |true=>exact .nil
     | false=>
       have:=hov hb
       exact ovr_all (fun _=>hj.jump 27 _ (by omega) (by omega)) (cB_all l _ ihl (by omega))
 |stop d=>intro p _;exact .cons cost (.cons (hq.plain 34 (by omega)) .nil)
theorem bytesOf_inj{l m:List Nat}(hl:∀x∈l,x<256)(hm:∀x∈m,x<256)(h:bytesOf l=bytesOf m):l=m:=by
 have h1:(l.map UInt8.ofNat).toArray=(m.map UInt8.ofNat).toArray:=congrArg ByteArray.data h
 have h2:l.map UInt8.ofNat=m.map UInt8.ofNat:=by simpa using h1
 have e:∀l:List Nat,(∀x∈l,x<256)→(l.map UInt8.ofNat).map UInt8.toNat=l:=fun l hl=>by
  rw[List.map_map]
  exact(List.map_congr_left fun x hx=>by
   show(UInt8.ofNat x).toNat=id x
   rw[UInt8.toNat_ofNat'];exact Nat.mod_eq_of_lt (hl x hx)).trans (List.map_id l)
 rw[←e l hl,h2,e m hm]
theorem nm_inj{c d k j:Nat}(hc:c<256)(hd:d<256)(hk:k<200)(hj:j<200)(h:nm c k=nm d j):c=d∧k=j:=by
 have:=bytesOf_inj (l:=[c,48+k]) (m:=[d,48+j]) (by intro x hx;simp only[List.mem_cons,List.not_mem_nil,or_false]at hx;omega) (by intro x hx;simp only[List.mem_cons,List.not_mem_nil,or_false]at hx;omega) h
 simp only[List.cons.injEq,and_true]at this
 omega
theorem nC_inj{i j:Nat}(hi:i<100)(hj:j<100)(h:nC i=nC j):i=j:=by
 have:=bytesOf_inj (l:=[97+i]) (m:=[97+j]) (by intro x hx;simp only[List.mem_cons,List.not_mem_nil,or_false]at hx;omega) (by intro x hx;simp only[List.mem_cons,List.not_mem_nil,or_false]at hx;omega) h
 simp only[List.cons.injEq,and_true]at this
 omega
def ixF(s:ByteArray):Nat→List ByteArray→Option Nat
 |_,[]=>none
 |k,x::r=>if x=s then some k else ixF s (k+1) r
theorem ixF_none{s:ByteArray}:∀{l:List ByteArray} {k:Nat},s∉l→ixF s k l=none
 |[],_,_=>rfl
 | x::r,k,h=>by
   rw[ixF,if_neg fun e=>h (by rw[e];exact List.mem_cons_self ..)]
   exact ixF_none fun hx=>h (List.mem_cons_of_mem _ hx)
theorem ixF_at{s:ByteArray}:∀{l:List ByteArray} {k j:Nat},l[j]?=some s→(∀i,i<j→l[i]?≠some s)→ixF s k l=some (k+j)
 |[],_,_,h,_=>by simp at h
 |x::r,k,0,h,_=>by rw[ixF,if_pos (by simpa using h)];rfl
 | x::r,k,j+1,h,hn=>by
   have h0:=hn 0 (by omega)
   rw[ixF,if_neg (by intro e;exact h0 (by rw[e];rfl)),ixF_at (l:=r) (k:=k+1) (j:=j) (by simpa using h) (fun i hi=>by have:=hn (i+1) (by omega);simpa using this)]
   congr 1;omega
theorem nms_ix{c n k:Nat}(hc:c<256)(hn:n<200)(hk:k<n)(m:Nat):ixF (nm c k) m (nms c n)=some (m+k):=by
 refine ixF_at (nms_get hk) fun i hi h=>?_
 rw[nms_get (by omega)]at h
 have:=(nm_inj hc hc (by omega) (by omega) (Option.some.inj h)).2
 omega
theorem nms_not{c d n k:Nat}(hc:c<256)(hd:d<256)(hn:n<200)(hk:k<200)(h:c≠d):nm d k∉nms c n:=fun hm=>by
 unfold nms at hm
 obtain⟨i,hi,he⟩:=List.mem_map.1 hm
 have:=(nm_inj hc hd (by have:=List.mem_range.1 hi;omega) hk he).1
 exact h this
def slF(s:ByteArray)(tab:Bool):Nat→List Vr→Option Nat
 |_,[]=>none
 |k,v::r=>if decide (v.ty=3)≠tab then slF s tab k r else if v.name=s then some k else slF s tab (k+1) r
def oI(o:Option Nat):Int:=match o with|some k=>(k:Int)|none=>-1
def slI(vars:List Vr)(s:ByteArray)(tab:Bool):Int:=oI (slF s tab 0 vars)
instance memDec(s:ByteArray):(l:List ByteArray)→Decidable (s∈l)
 |[]=> .isFalse (fun h=>by cases h)
 | x::r=>if h:s=x then .isTrue (by rw[h];exact List.mem_cons_self ..)else match memDec s r with
   | .isTrue k=> .isTrue (List.mem_cons_of_mem _ k)
   | .isFalse k=> .isFalse fun m=>(List.mem_cons.1 m).elim h k
def hnAdd(o:List ByteArray)(l:List PH):List ByteArray:=l.foldl (fun(o:List ByteArray) (h:PH)=>if h.name∈o then o else o++[h.name]) o
def hnames(v:List (List PH)):List ByteArray:=v.foldl hnAdd []
def tgF(cn hn:ByteArray):Nat→List PC→Int×Int
 |_,[]=>(-1,-1)
 |i,c::r=>if c.name=cn then(match ixF hn 0 (hnames c.vers)with|some h=>((i:Int),(h:Int))|none=>tgF cn hn (i+1) r)else tgF cn hn (i+1) r
def ccR(f:PF)(own:ByteArray)(vars:List Vr)(ps:List ByteArray):Cc where
 pn s:=match ixF s 0 ps with|some k=>⟨3,(k:Int),0,0⟩|none=>match ixF s 0 (f.flags.map Fg.name)with|some k=>⟨4,(k:Int),0,0⟩|none=>⟨2,slI vars s false,0,0⟩
 vs s:=slI vars s false
 ts s:=slI vars s true
 tg c h:=tgF c h 0 f.comps
 ah h:=(tgF own h 0 f.comps).2
def varN(vars:List Vr)(tab:Bool):List ByteArray:=(vars.filter fun v=>decide (v.ty=3)==tab).map Vr.name
theorem hnAdd_nms{a:Nat}:∀(l:List PH) (k:Nat),k≤a→a+l.length<100→(∀j h,l[j]?=some h→h.name=nm 104 (k+j))→hnAdd (nms 104 a) l=nms 104 (max a (k+l.length))
 | [],k,hk,_,_=>by
   rw[ln0,Nat.add_zero,Nat.max_eq_left hk];rfl
 | h ::r,k,hk,hn,hl=>by
   have h0:h.name=nm 104 k:=hl 0 h rfl
   rw[lc1]at hn
   have hr:∀j x,r[j]?=some x→x.name=nm 104 (k+1+j):=fun j x hx=>by
    rw[show k+1+j=k+(j+1) by omega];exact hl (j+1) x (by simpa using hx)
   show hnAdd (if h.name∈nms 104 a then nms 104 a else nms 104 a++[h.name]) r=_
   by_cases hlt:k<a
   ·rw[if_pos (by rw[h0];exact mog (nms_get hlt)),hnAdd_nms r (k+1) hlt (by omega) hr,lc1,show k+1+r.length=k+(r.length+1) by omega]
   · have hka:k=a:=by omega
     subst hka
     rw[if_neg (by
      rw[h0];intro hm
      unfold nms at hm
      obtain⟨i,hi,he⟩:=List.mem_map.1 hm
      have h1:=List.mem_range.1 hi
      have:=(nm_inj (by decide) (by decide) (by omega) (by omega) he).2
      omega),h0,←nms_succ,hnAdd_nms r (k+1) (Nat.le_refl _) (by omega) hr,lc1]
     congr 1;omega
theorem GoodV.names{c:Ct}{ar:List Nat}{l:List PH}(h:GoodV c ar l):∀j x,l[j]?=some x→x.name=nm 104 (0+j):=fun j x hx=>by rw[Nat.zero_add];exact(h.2.2 j x hx).name
theorem hnames_good{c:Ct}{ar:List Nat}(har:ar.length≤3):∀(v:List (List PH)) (a:Nat),a≤ar.length→(∀x∈v,GoodV c ar x)→∃b,v.foldl hnAdd (nms 104 a)=nms 104 b∧a≤b∧b≤ar.length∧∀x∈v,x.length≤b
 |[],a,ha,_=>⟨a,rfl,Nat.le_refl _,ha,fun x h=>by cases h⟩
 | x ::r,a,ha,h=>by
   have hx:=h x (List.mem_cons_self ..)
   have hl:=hx.2.1
   obtain⟨b,e,h1,h2,h3⟩:=hnames_good har r (max a (0+x.length)) (by omega) fun y hy=>h y (List.mem_cons_of_mem _ hy)
   refine⟨b,?_,by omega,h2,fun y hy=>?_⟩
   ·rw[List.foldl_cons,hnAdd_nms x 0 (Nat.zero_le _) (by omega) hx.names];exact e
   · rcases List.mem_cons.1 hy with rfl|hy
     ·omega
     ·exact h3 y hy
theorem GoodC.hnames{flags:Nat}{ars:List (List Nat)}{i:Nat}{c:PC}(ho:arsOk ars)(h:GoodC flags ars i c):∃ar,ars[i]?=some ar∧Go.Proofs.YtihgdnjkofpgiaaGreatDoor.hnames c.vers=nms 104 ar.length:=by
 obtain⟨ints,tables,ar,_,_,ha,_,hv,_,x,hx,hl⟩:=h.vers
 obtain⟨b,e,_,h2,h3⟩:=hnames_good (ho.2 ar (mog ha)).2.1 c.vers 0 (Nat.zero_le _) hv
 refine⟨ar,ha,?_⟩
 have:=h3 x hx
 rw[show ar.length=b by omega]
 exact e
structure OkC(f:PF)(i:Nat)(c:PC)(ct:Ct)(ar:List Nat):Prop where
 ok:ct.Ok
 own:ct.own=i
 arr:ct.ars[i]?=some ar
 flags:f.flags.map Fg.name=nms 102 ct.flags
 vars:c.vars=varsOf ct.ints ct.tables
 name:c.name=nC i
 vers:∀v∈c.vers,GoodV ct ar v
 hn:hnames c.vers=nms 104 ar.length
 tg:∀(to:Nat) (a:List Nat) (h n:Nat),ct.ars[to]?=some a→a[h]?=some n→tgF (nC to) (nm 104 h) 0 f.comps=((to:Int),(h:Int))
 cix:∀to:Nat,to<ct.ars.length→ixF (nC to) 0 (f.comps.map PC.name)=some to
 hall:∀(to:Nat) (a:List Nat),ct.ars[to]?=some a→(f.comps.map fun c=>hnames c.vers)[to]?=some (nms 104 a.length)
end Go.Proofs.YtihgdnjkofpgiaaGreatDoor

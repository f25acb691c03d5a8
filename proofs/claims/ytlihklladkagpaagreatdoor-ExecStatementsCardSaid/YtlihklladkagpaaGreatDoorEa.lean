/- Own text. -/
import Derived.Test.YtlihklladkagpaaGreatDoorXh
import Derived.Test.YtlihklladkagpaaGreatDoorRb
set_option linter.unusedVariables false
set_option linter.unusedSimpArgs false
set_option maxHeartbeats 2000000
set_option maxRecDepth 100000
namespace Go.Proofs.YtlihklladkagpaaGreatDoor
open Go.Proofs.Tryz
open Go.RowKit Go.Flow Go.Mem Go.Sep Go.In
def nmV(c:Cc)(s:Sm)(d:Dv)(n:ByteArray):Int:=
 if(c.pn n).op=2 then d.vars.getD (c.pn n).a.toNat 0 else if(c.pn n).op=3 then s.args.getD (c.pn n).a.toNat 0 else tru (s.flags.getD (c.pn n).a.toNat false)
def evO(c:Cc)(s:Sm)(d:Dv)(op:Nat)(nm:ByteArray)(n:Int)(l:List Int):Int:=
 if op=1 then n else if op=2 then 1 else if op=3 then 0 else if op=4 then s.now else if op=5 then nmV c s d nm
 else if op=6 then(Fp (d.tabs.getD (c.ts nm).toNat []) (l.getD 0 0)).getD 0
 else if op=7 then tru (Fp (d.tabs.getD (c.ts nm).toNat []) (l.getD 0 0)).isSome
 else if op=8 then((d.tabs.getD (c.ts nm).toNat []).length:Int)
 else if op=9∨op=10 then unV op (l.getD 0 0)else Ha op (l.getD 0 0) (l.getD 1 0)
mutual
def evE(c:Cc)(s:Sm)(d:Dv):PE→Int
 |⟨op,nm,n,l⟩=>evO c s d op nm n (aIs c s d l)
def aIs(c:Cc)(s:Sm)(d:Dv):List PE→List Int
 |[]=>[]
 |e::r=>evE c s d e::aIs c s d r
end
theorem aIv(c:Cc)(s:Sm)(d:Dv):∀l:List PE,aIs c s d l=l.map (evE c s d)
 |[]=>rfl
 |e::r=>by rw[aIs,aIv c s d r,aFn]
def st(d:Dv)(p:Nat)(S:List Int):Dv:={d with next:=((p:Nat):Int),stack:=S}
section
variable{c:Cc}{s:Sm}
theorem aLe(hc:c.Loads){d:Dv}{op:Nat}{nm:ByteArray}{n:Int}{l S:List Int}{p:Nat}(h:(((1≤op∧op≤5)∨op=8)∧l=[])∨((op=6∨op=7∨op=9∨op=10)∧∃a,l=[a])∨((11≤op∧op≤23)∧∃a b,l=[a,b])):
    Bj s (opI c op nm n) (st d p (S++l))=st d p (S++[evO c s d op nm n l]):=by
 rcases h with⟨ho,rfl⟩|⟨ho,a,rfl⟩|⟨ho,a,b,rfl⟩
 · rw[aEz]
   have hk:op=1∨op=2∨op=3∨op=4∨op=5∨op=8:=om
   rcases hk with rfl|rfl|rfl|rfl|rfl|rfl
   ·exact CP rfl
   ·exact CP rfl
   ·exact CP rfl
   ·exact CU rfl
   · have e:opI c 5 nm n=c.pn nm:=rfl
     have e2:evO c s d 5 nm n []=nmV c s d nm:=rfl
     rw[e,e2]
     unfold nmV
     have h1:=hc nm
     have hk:(c.pn nm).op=2∨(c.pn nm).op=3∨(c.pn nm).op=4:=om
     rcases hk with h|h|h
     ·rw[CQ (by rw[h];rfl),aEh h];rfl
     ·rw[CR (by rw[h];rfl),aEa om,aEh h];rfl
     ·rw[CS (by rw[h];rfl),aEa om,aEa om];rfl
   ·rw[Gl (by right;right;left;rfl)];rfl
 · have e1:(S++[a]).dropLast=S:=List.dropLast_concat
   have e2:(S++[a]).getLastD 0=a:=by simp
   rcases ho with rfl|rfl|rfl|rfl
   · rw[Gl (by left;rfl)]
     show({st d p (S++[a])with stack:=(S++[a]).dropLast++[(Fp (d.tabs.getD (c.ts nm).toNat []) ((S++[a]).getLastD 0)).getD 0]}:Dv)=_
     rw[e1,e2];rfl
   · rw[Gl (by right;left;rfl)]
     show({st d p (S++[a])with stack:=(S++[a]).dropLast++[tru (Fp (d.tabs.getD (c.ts nm).toNat []) ((S++[a]).getLastD 0)).isSome]}:Dv)=_
     rw[e1,e2];rfl
   · rw[vK (by left;rfl)]
     show({st d p (S++[a])with stack:=(S++[a]).dropLast++[unV 9 ((S++[a]).getLastD 0)]}:Dv)=_
     rw[e1,e2];rfl
   · rw[vK (by right;rfl)]
     show({st d p (S++[a])with stack:=(S++[a]).dropLast++[unV 10 ((S++[a]).getLastD 0)]}:Dv)=_
     rw[e1,e2];rfl
 · have e0:S++[a,b]=(S++[a])++[b]:=by simp
   have e1:(S++[a,b]).dropLast=S++[a]:=by rw[e0];exact List.dropLast_concat
   have e2:(S++[a,b]).getLastD 0=b:=by rw[e0];simp
   have e3:(S++[a]).dropLast=S:=List.dropLast_concat
   have e4:(S++[a]).getLastD 0=a:=by simp
   have eo:opI c op nm n=⟨op,0,0,0⟩:=by unfold opI;rw[aEa om,aEa om,aEa om,aEa om,aEa om,aEa om]
   have ev:evO c s d op nm n [a,b]=Ha op a b:=by unfold evO;rw[aEa om,aEa om,aEa om,aEa om,aEa om,aEa om,aEa om,aEa om,aEa om];rfl
   rw[eo,ev,GZ (by show 11≤((op:Nat):Int)∧((op:Nat):Int)≤23;omega)]
   show({st d p (S++[a,b])with stack:=(S++[a,b]).dropLast.dropLast++[Ha op ((S++[a,b]).dropLast.getLastD 0) ((S++[a,b]).getLastD 0)]}:Dv)=_
   rw[e1,e2,e3,e4];rfl
def Rch(s:Sm)(n:Nat)(a b:Dv):Prop:=∀f,Nl s (f+n) a=Nl s f b
theorem Rch.refl{a:Dv}:Rch s 0 a a:=fun _=>rfl
theorem Rch.trans{n m:Nat}{a b e:Dv}(h:Rch s n a b)(k:Rch s m b e):Rch s (n+m) a e:=fun f=>by
 rw[show f+(n+m)=(f+m)+n by omega,h,k]
theorem atA{L A B:List Ins}{x:Ins}(h:L=A++(x::B)):L[A.length]?=some x:=by rw[h,aFw (aEu _),aGj];rfl
theorem aJy{d:Dv}{p:Nat}{S:List Int}{x:Ins}(hx:s.code[p]?=some x)(f:Nat):Nl s (f+1) (st d p S)=if(Bj s x (st d (p+1) S)).fault=true then Zu (Bj s x (st d (p+1) S))else Nl s f (Bj s x (st d (p+1) S)):=
 Wt (d:=st d p S) (by have:=(aEc.1 hx).1;show((p:Nat):Int)<_;omega) hx f
theorem Rch.one{d e:Dv}{p:Nat}{S:List Int}{x:Ins}(hx:s.code[p]?=some x)(he:Bj s x (st d (p+1) S)=e)(hf:e.fault=false):Rch s 1 (st d p S) e:=fun f=>by
 rw[aJy hx,he,aEa (by rw[hf];decide)]
theorem aLj(hc:c.Loads){n:Nat}{e:PE}(h:WfE n e):∀(A B:List Ins) (S:List Int) (d:Dv),s.code=A++(cE c e++B)→d.fault=false→Rch s (cE c e).length (st d A.length S) (st d (A.length+(cE c e).length) (S++[evE c s d e])):=by
 have op:∀(A B:List Ins) (S l:List Int) (d:Dv) (o:Nat) (nm:ByteArray) (n:Int),s.code=A++(opI c o nm n::B)→d.fault=false→((((1≤o∧o≤5)∨o=8)∧l=[])∨((o=6∨o=7∨o=9∨o=10)∧∃a,l=[a])∨((11≤o∧o≤23)∧∃a b,l=[a,b]))→Rch s 1 (st d A.length (S++l)) (st d (A.length+1) (S++[evO c s d o nm n l])):=
  fun A B S l d o nm n hL hf ho=>Rch.one (atA hL) (aLe hc ho) hf
 induction h with
 |leaf k o nm n h=>intro A B S d hL hf;have:=op A B S [] d o nm n hL hf (.inl ⟨h,rfl⟩);rwa[aEz]at this
 | un k o nm n a h ha ih=>
   intro A B S d hL hf
   have e1:cE c ⟨o,nm,n,[a]⟩=cE c a++[opI c o nm n]:=by show(cE c a++[])++_=_;rw[aEz]
   rw[e1,aFb]at hL
   have h1:=ih A ([opI c o nm n]++B) S d hL hf
   have hL2:s.code=(A++cE c a)++(opI c o nm n::B):=by rw[hL,aFb];rfl
   have h2:=op (A++cE c a) B S [evE c s d a] d o nm n hL2 hf (.inr (.inl ⟨h,_,rfl⟩))
   rw[lap]at h2
   rw[e1,lap]
   exact h1.trans h2
 | bin k o nm n a b h ha hb iha ihb=>
   intro A B S d hL hf
   have e1:cE c ⟨o,nm,n,[a,b]⟩=cE c a++(cE c b++[opI c o nm n]):=by show(cE c a++(cE c b++[]))++_=_;rw[aEz,aFb]
   rw[e1]at hL
   have h1:=iha A ((cE c b++[opI c o nm n])++B) S d (by rw[hL,aFb]) hf
   have h2:=ihb (A++cE c a) ([opI c o nm n]++B) (S++[evE c s d a]) d (by rw[hL];simp only[aFb]) hf
   have h3:=op ((A++cE c a)++cE c b) B S [evE c s d a,evE c s d b] d o nm n (by rw[hL];simp only[aFb];rfl) hf (.inr (.inr ⟨h,_,_,rfl⟩))
   rw[lap]at h2 h3
   rw[lap]at h3
   rw[aFb]at h2
   rw[e1,lap,lap]
   have:=h1.trans (h2.trans h3)
   rw[show(cE c a).length+((cE c b).length+[opI c o nm n].length)=(cE c a).length+((cE c b).length+1)from rfl]
   rw[show A.length+((cE c a).length+((cE c b).length+1))=A.length+(cE c a).length+(cE c b).length+1 by omega]
   exact this
theorem aKm(hc:c.Loads){n:Nat}:∀(l:List PE),(∀e∈l,WfE n e)→∀(A B:List Ins) (S:List Int) (d:Dv),s.code=A++(cEs c l++B)→d.fault=false→Rch s (cEs c l).length (st d A.length S) (st d (A.length+(cEs c l).length) (S++aIs c s d l))
 |[],_,A,B,S,d,_,_=>by rw[aIs,aEz];exact Rch.refl
 | e::r,h,A,B,S,d,hL,hf=>by
   have hL:s.code=A++((cE c e++cEs c r)++B):=hL
   have h1:=aLj hc (h e (aEd ..)) A (cEs c r++B) S d (by rw[hL,aFb]) hf
   have h2:=aKm hc r (fun x hx=>h x (aEb _ hx)) (A++cE c e) B (S++[evE c s d e]) d (by rw[hL];simp only[aFb]) hf
   rw[lap,aFb]at h2
   show Rch s (cE c e++cEs c r).length _ (st d (A.length+(cE c e++cEs c r).length) (S++(evE c s d e::aIs c s d r)))
   rw[lap,←Nat.add_assoc]
   exact h1.trans h2
def pF(d:Dv):Dv:={d with cost:=d.cost+1}
def aKq(d:Dv):Dv:={d with fault:=true,effs:=d.effs++[Ph]}
def aIt(d:Dv)(e:EfV):Dv:=if d.sends=8 then aKq d else{d with sends:=d.sends+1,effs:=d.effs++[e]}
def aIw(s:Sm)(d:Dv):Bool:=decide (s.dsk+d.disks∈s.fail)
def aKy(s:Sm)(d:Dv)(k v:Int):Dv:={d with disks:=d.disks+1,disk:=if aIw s d=true then d.disk else Oq d.disk k v,effs:=d.effs++[⟨3,0,0,0,k,v,aIw s d,[]⟩]}
def aJj(s:Sm)(d:Dv)(i:Nat)(k:Int):Dv:=if aIw s d=true then{d with disks:=d.disks+1,effs:=d.effs++[⟨4,0,0,0,k,0,true,[]⟩]}else
 {d with disks:=d.disks+1,vars:=d.vars.set i ((Fp d.disk k).getD 0),effs:=d.effs++[⟨4,0,0,0,k,(Fp d.disk k).getD 0,false,[]⟩]}
def aJf(c:Cc)(d:Dv)(k:Nat)(nm hd:ByteArray)(l:List Int):Dv:=
 if k=1 then{d with vars:=d.vars.set (c.vs nm).toNat (l.getD 0 0)}
 else if k=2 then{d with tabs:=d.tabs.set (c.ts nm).toNat (Oq (d.tabs.getD (c.ts nm).toNat []) (l.getD 0 0) (l.getD 1 0))}
 else if k=3 then{d with tabs:=d.tabs.set (c.ts nm).toNat (Im (d.tabs.getD (c.ts nm).toNat []) (l.getD 0 0))}
 else if k=6 then aIt d ⟨1,(c.tg nm hd).1,(c.tg nm hd).2,0,0,0,false,l⟩
 else if k=7 then aIt d ⟨2,0,c.ah hd,l.getD 0 0,0,0,false,l.drop 1⟩
 else{d with fault:=true}
inductive Bd(c:Cc)(s:Sm):List PS→Dv→Dv→Prop
 |nil (d:Dv):Bd c s [] d d
 |fin (x:PS) (r:List PS) (d:Dv) (h:d.fault=true):Bd c s (x::r) d d
 |poor (x:PS) (r:List PS) (d:Dv) (h:d.fault=false) (hc:d.cost=200):Bd c s (x::r) d (aKq d)
 |one (k:Nat) (nm hd:ByteArray) (es:List PE) (r:List PS) (d d':Dv) (h:d.fault=false) (hc:d.cost<200) (hk:k=1∨k=2∨k=3∨k=6∨k=7∨k=10) (h2:Bd c s r (aJf c (pF d) k nm hd (aIs c s (pF d) es)) d'):Bd c s (⟨k,nm,hd,es,[],[]⟩::r) d d'
 |ife (nm hd:ByteArray) (a:PE) (t e r:List PS) (d d1 d':Dv) (h:d.fault=false) (hc:d.cost<200) (h1:Bd c s (if evE c s (pF d) a=0 then e else t) (pF d) d1) (h2:Bd c s r d1 d'):Bd c s (⟨4,nm,hd,[a],t,e⟩::r) d d'
 |whF (nm hd:ByteArray) (a:PE) (t r:List PS) (d d':Dv) (h:d.fault=false) (hc:d.cost<200) (hv:evE c s (pF d) a=0) (h2:Bd c s r (pF d) d'):Bd c s (⟨5,nm,hd,[a],t,[]⟩::r) d d'
 |whT (nm hd:ByteArray) (a:PE) (t r:List PS) (d d1 d':Dv) (h:d.fault=false) (hc:d.cost<200) (hv:evE c s (pF d) a≠0) (h1:Bd c s t (pF d) d1) (h2:Bd c s (⟨5,nm,hd,[a],t,[]⟩::r) d1 d'):Bd c s (⟨5,nm,hd,[a],t,[]⟩::r) d d'
 |sto (nm hd:ByteArray) (a b:PE) (e r:List PS) (d d1 d':Dv) (h:d.fault=false) (hc:d.cost<200) (h1:Bd c s (if aIw s d=true then e else []) (aKy s (pF d) (evE c s (pF d) a) (evE c s (pF d) b)) d1) (h2:Bd c s r d1 d'):Bd c s (⟨8,nm,hd,[a,b],[],e⟩::r) d d'
 |fet (nm hd:ByteArray) (a:PE) (e r:List PS) (d d1 d':Dv) (h:d.fault=false) (hc:d.cost<200) (h1:Bd c s (if aIw s d=true then e else []) (aJj s (pF d) (c.vs nm).toNat (evE c s (pF d) a)) d1) (h2:Bd c s r d1 d'):Bd c s (⟨9,nm,hd,[a],[],e⟩::r) d d'
theorem Bd.done{l:List PS}{d d':Dv}(h:Bd c s l d d')(hf:d.fault=true):d'=d:=by
 cases h<;>first|rfl|(rename_i h0 _ _ _;rw[h0]at hf;cases hf)|simp_all
theorem aKg(d:Dv)(e:EfV):(aIt d e).cost=d.cost:=by unfold aIt;split<;>rfl
theorem aJh(c:Cc)(d:Dv)(k:Nat)(nm hd:ByteArray)(l:List Int):(aJf c d k nm hd l).cost=d.cost:=by
 unfold aJf
 repeat (split;first|rfl|exact aKg _ _)
 rfl
theorem aJl(s:Sm)(d:Dv)(i:Nat)(k:Int):(aJj s d i k).cost=d.cost:=by unfold aJj;split<;>rfl
theorem Bd.cost{l:List PS}{d d':Dv}(h:Bd c s l d d')(hc:d.cost≤200):d'.cost≤200:=by
 induction h with
 |nil=>exact hc
 |fin=>exact hc
 |poor=>exact hc
 |one k nm hd es r d d' h hc0 hk h2 ih=>exact ih (by rw[aJh];show d.cost+1≤200;omega)
 |ife nm hd a t e r d d1 d' h hc0 h1 h2 ih1 ih2=>exact ih2 (ih1 (by show d.cost+1≤200;omega))
 |whF nm hd a t r d d' h hc0 hv h2 ih=>exact ih (by show d.cost+1≤200;omega)
 |whT nm hd a t r d d1 d' h hc0 hv h1 h2 ih1 ih2=>exact ih2 (ih1 (by show d.cost+1≤200;omega))
 |sto nm hd a b e r d d1 d' h hc0 h1 h2 ih1 ih2=>exact ih2 (ih1 (by show d.cost+1≤200;omega))
 |fet nm hd a e r d d1 d' h hc0 h1 h2 ih1 ih2=>exact ih2 (ih1 (by rw[aJl];show d.cost+1≤200;omega))
def Out(s:Sm)(d d':Dv)(p q:Nat):Prop:=∃n:Nat,((d'.fault=false∧(n:Int)≤4000*(d'.cost-d.cost))∧Rch s n (st d p []) (st d' q []))∨((d'.fault=true∧(n:Int)≤4000*(d'.cost-d.cost)+4000)∧∀f,rs (Nl s (f+n) (st d p []))=rs d')
theorem Out.refl{d:Dv}{p:Nat}(h:d.fault=false):Out s d d p p:=⟨0, .inl ⟨⟨h,by omega⟩,Rch.refl⟩⟩
theorem aKb{d e d':Dv}{p p' q n:Nat}(h:Rch s n (st d p []) (st e p' []))(hc:e.cost=d.cost+1)(hn:n≤4000)(k:Out s e d' p' q):Out s d d' p q:=by
 obtain⟨m,⟨⟨hf,hm⟩,k⟩|⟨⟨hf,hm⟩,k⟩⟩:=k
 ·exact⟨n+m, .inl ⟨⟨hf,by omega⟩,h.trans k⟩⟩
 ·exact⟨n+m, .inr ⟨⟨hf,by omega⟩,fun f=>by rw[show f+(n+m)=(f+m)+n by omega,h,k]⟩⟩
theorem aIy{d e d1 d':Dv}{p p1 p2 p3 q n:Nat}(h:Rch s n (st d p []) (st e p1 []))(hc:e.cost=d.cost+1)(hn:n+1≤4000)(k1:Out s e d1 p1 p2)(j:d1.fault=false→∃m,m≤1∧Rch s m (st d1 p2 []) (st d1 p3 []))(k2:d1.fault=false→Out s d1 d' p3 q)(kd:d1.fault=true→d'=d1):Out s d d' p q:=by
 obtain⟨m,⟨⟨hf,hm⟩,k⟩|⟨⟨hf,hm⟩,k⟩⟩:=k1
 · obtain⟨i,hi,hj⟩:=j hf
   obtain⟨m2,⟨⟨hf2,hm2⟩,k3⟩|⟨⟨hf2,hm2⟩,k3⟩⟩:=k2 hf
   ·exact⟨n+(m+(i+m2)), .inl ⟨⟨hf2,by omega⟩,h.trans (k.trans (hj.trans k3))⟩⟩
   ·exact⟨n+(m+(i+m2)), .inr ⟨⟨hf2,by omega⟩,fun f=>by rw[show f+(n+(m+(i+m2)))=(f+m2)+(n+(m+i)) by omega,(h.trans (k.trans hj)) (f+m2),k3]⟩⟩
 · obtain rfl:=kd hf
   exact⟨n+m, .inr ⟨⟨hf,by omega⟩,fun f=>by rw[show f+(n+m)=(f+m)+n by omega,h,k]⟩⟩
theorem aJm(hc:c.Loads){es:List PE}(h:∀e∈es,WfE 5 e){A B:List Ins}{d:Dv}(hL:s.code=A++(hdC c es++B))(hf:d.fault=false)(hk:d.cost<200):Rch s (hdC c es).length (st d A.length []) (st (pF d) (A.length+(hdC c es).length) (aIs c s (pF d) es)):=by
 have h1:Rch s 1 (st d A.length []) (st (pF d) (A.length+1) []):=Rch.one (x:=⟨29,0,0,0⟩) (atA hL) (by
  rw[OQ rfl]
  show({st d (A.length+1) []with fault:=decide (d.cost=200),cost:=min (d.cost+1) 200}:Dv)=_
  rw[show decide (d.cost=200)=d.fault by rw[hf];exact aEo om,show min (d.cost+1) 200=d.cost+1 by omega];rfl) hf
 have h2:=aKm hc es h (A++[⟨29,0,0,0⟩]) B [] (pF d) (by rw[hL];simp only[hdC,aFb,aGp,aGi]) hf
 rw[lap,aGi]at h2
 have e:(hdC c es).length=1+(cEs c es).length:=by show(cEs c es).length+1=_;omega
 rw[e,←Nat.add_assoc]
 exact h1.trans h2
theorem aKz{d:Dv}{q:Nat}{y:Ins}{k:Nat}{nm hd:ByteArray}{l:List Int}(hf:d.fault=false)(hy:s.code[q]?=some y)
    (hk:(k=1∧y=⟨24,c.vs nm,0,0⟩∧∃a,l=[a])∨(k=2∧y=⟨25,c.ts nm,0,0⟩∧∃a b,l=[a,b])∨(k=3∧y=⟨26,c.ts nm,0,0⟩∧∃a,l=[a])∨(k=6∧y=⟨30,(c.tg nm hd).1,(c.tg nm hd).2,((l.length:Nat):Int)⟩)∨(k=7∧y=⟨31,0,c.ah hd,((l.length:Nat):Int)-1⟩∧∃a r,l=a::r)∨(k=10∧y=⟨34,0,0,0⟩)):
    ((aJf c d k nm hd l).fault=false∧Rch s 1 (st d q l) (st (aJf c d k nm hd l) (q+1) []))∨((aJf c d k nm hd l).fault=true∧∀f,rs (Nl s (f+1) (st d q l))=rs (aJf c d k nm hd l)):=by
 have snd:∀e:EfV,((((y.op:Nat):Int)=30∨((y.op:Nat):Int)=31)∧(d.sends≠8→Bj s y (st d (q+1) l)=st (aIt d e) (q+1) []))→((aIt d e).fault=false∧Rch s 1 (st d q l) (st (aIt d e) (q+1) []))∨((aIt d e).fault=true∧∀f,rs (Nl s (f+1) (st d q l))=rs (aIt d e)):=fun e ⟨hop,he⟩=>by
  by_cases h8:d.sends=8
  · have e1:aIt d e=aKq d:=aEh h8
    refine .inr ⟨by rw[e1];rfl,fun f=>?_⟩
    have e2:Bj s y (st d (q+1) l)={st d (q+1) l with fault:=true}:=by
     rw[Qb hop];exact pQ h8
    rw[aJy hy,e2,aEh rfl,e1];rfl
  · have hf2:(aIt d e).fault=false:=by unfold aIt;rw[aEa h8];exact hf
    exact .inl ⟨hf2,Rch.one hy (he h8) hf2⟩
 rcases hk with⟨rfl,rfl,a,rfl⟩|⟨rfl,rfl,a,b,rfl⟩|⟨rfl,rfl,a,rfl⟩|⟨rfl,rfl⟩|⟨rfl,rfl,a,r,rfl⟩|⟨rfl,rfl⟩
 ·exact .inl ⟨hf,Rch.one hy (by rw[OM rfl];rfl) hf⟩
 ·exact .inl ⟨hf,Rch.one hy (by rw[Gl (by right;right;right;left;rfl)];rfl) hf⟩
 ·exact .inl ⟨hf,Rch.one hy (by rw[Gl (by right;right;right;right;rfl)];rfl) hf⟩
 ·exact snd _ ⟨.inl rfl,fun h8=>by
     rw[Qb (.inl rfl),jD (d:=st d (q+1) l) h8 (show¬(30:Int)=31 by decide)]
     unfold aIt;rw[aEa h8]
     have e1:(st d (q+1) l).stack.length-((l.length:Nat):Int).toNat=0:=by show l.length-_=0;omega
     dsimp only
     rw[e1];rfl⟩
 ·exact snd _ ⟨.inr rfl,fun h8=>by
     rw[Qb (.inr rfl),jC (d:=st d (q+1) (a::r)) h8 rfl]
     unfold aIt;rw[aEa h8]
     have e1:(st d (q+1) (a::r)).stack.length-((((a::r).length:Nat):Int)-1).toNat=1:=by show(a::r).length-_=1;rw[lc1];omega
     dsimp only
     rw[e1];rfl⟩
 · refine .inr ⟨rfl,fun f=>?_⟩
   have e2:Bj s ⟨34,0,0,0⟩ (st d (q+1) l)={st d (q+1) l with next:=s.code.length}:=by
    unfold Bj;rfl
   rw[aJy hy,e2,aEa (by show¬d.fault=true;rw[hf];decide),Zv (by show¬((s.code.length:Nat):Int)<_;omega)];rfl
theorem aJr{X B E:List Ins}{b:Bool}{d:Dv}(hL:s.code=X++(ovr X.length E b++B))(hf:d.fault=false):∃m,m≤1∧Rch s m (st d X.length []) (st d (X.length+(ovr X.length E b).length) []):=by
 cases b with
 |true=>exact⟨0,by omega,Rch.refl⟩
 | false=>
   refine⟨1,by omega,Rch.one (x:=⟨27,((X.length+1+E.length:Nat):Int),0,0⟩) (atA hL) ?_ hf⟩
   rw[OO rfl]
   have e:X.length+(ovr X.length E false).length=X.length+1+E.length:=by show X.length+(E.length+1)=_;omega
   rw[e];rfl
theorem aJz{e:List PS}{X B:List Ins}{d d1:Dv}(hL:s.code=X++(ovr X.length (cB c e (X.length+1)) e.isEmpty++B))(ih:∀A B,s.code=A++(cB c e A.length++B)→Out s d d1 A.length (A.length+(cB c e A.length).length)):Out s d d1 (X.length+(if e.isEmpty then 0 else 1)) (X.length+(ovr X.length (cB c e (X.length+1)) e.isEmpty).length):=by
 cases e with
 |nil=>exact ih X B hL
 | cons a r=>
   have h:=ih (X++[⟨27,((X.length+1+(cB c (a::r) (X.length+1)).length:Nat):Int),0,0⟩]) B (by rw[hL,Wm];simp only[ovr,List.isEmpty_cons,aFb,aGp,aGi];rfl)
   rw[Wm]at h
   have e1:X.length+(ovr X.length (cB c (a::r) (X.length+1)) (a::r).isEmpty).length=X.length+1+(cB c (a::r) (X.length+1)).length:=by show X.length+((cB c (a::r) (X.length+1)).length+1)=_;omega
   rw[e1];exact h
theorem aJp{d:Dv}{q:Nat}{t v:Int}(hy:s.code[q]?=some ⟨28,t,0,0⟩)(hf:d.fault=false){p:Nat}(hp:((p:Nat):Int)=if v=0 then t else((q+1:Nat):Int)):Rch s 1 (st d q [v]) (st d p []):=
 Rch.one hy (by rw[OP rfl];show({st d (q+1) [v]with stack:=[],next:=if v=0 then t else((q+1:Nat):Int)}:Dv)=_;rw[←hp];rfl) hf
theorem aKc{d:Dv}{q:Nat}{t k v:Int}(hy:s.code[q]?=some ⟨32,0,t,0⟩)(hf:d.fault=false){p:Nat}(hp:((p:Nat):Int)=if aIw s d=true then t else((q+1:Nat):Int)):Rch s 1 (st d q [k,v]) (st (aKy s d k v) p []):=
 Rch.one hy (by
  rw[Ml (.inl rfl),jE rfl]
  show({st d (q+1) [k,v]with disks:=d.disks+1,stack:=[],next:=if aIw s d=true then t else((q+1:Nat):Int),disk:=if aIw s d=true then d.disk else Oq d.disk k v,effs:=d.effs++[⟨3,0,0,0,k,v,aIw s d,[]⟩]}:Dv)=_
  rw[←hp];rfl) hf
theorem aKd{d:Dv}{q:Nat}{i t k:Int}(hy:s.code[q]?=some ⟨33,i,t,0⟩)(hf:d.fault=false){p:Nat}(hp:((p:Nat):Int)=if aIw s d=true then t else((q+1:Nat):Int)):Rch s 1 (st d q [k]) (st (aJj s d i.toNat k) p []):=by
 by_cases hb:s.dsk+d.disks∈s.fail
 · have hb2:aIw s d=true:=aEk hb
   rw[aEh hb2]at hp
   have e:aJj s d i.toNat k={d with disks:=d.disks+1,effs:=d.effs++[⟨4,0,0,0,k,0,true,[]⟩]}:=aEh hb2
   exact Rch.one hy (by rw[Ml (.inr rfl),bN (d:=st d (q+1) [k]) (show¬(33:Int)=32 by decide) hb,e];show({st d (q+1) [k]with disks:=d.disks+1,stack:=[],next:=t,effs:=d.effs++[⟨4,0,0,0,k,0,true,[]⟩]}:Dv)=_;rw[←hp];rfl) (by rw[e];exact hf)
 · have hb2:¬aIw s d=true:=fun h=>hb (aGc h)
   rw[aEa hb2]at hp
   have e:aJj s d i.toNat k={d with disks:=d.disks+1,vars:=d.vars.set i.toNat ((Fp d.disk k).getD 0),effs:=d.effs++[⟨4,0,0,0,k,(Fp d.disk k).getD 0,false,[]⟩]}:=aEa hb2
   have hpq:p=q+1:=om
   exact Rch.one hy (by rw[Ml (.inr rfl),bO (d:=st d (q+1) [k]) (show¬(33:Int)=32 by decide) hb,e,hpq];rfl) (by rw[e];exact hf)
theorem aKh(s:Sm)(d:Dv)(i:Nat)(k:Int):(aJj s d i k).fault=d.fault:=by unfold aJj;split<;>rfl
theorem aLk(hc:c.Loads)(hlen:s.code.length≤3816){l:List PS}{d d':Dv}(h:Bd c s l d d'):(∀x∈l,WfS x)→∀A B,s.code=A++(cB c l A.length++B)→d.fault=false→Out s d d' A.length (A.length+(cB c l A.length).length):=by
 -- what follows a statement
 have rest:∀{x:PS} {r:List PS} {A B:List Ins},s.code=A++(cB c (x::r) A.length++B)→s.code=A++(cS c x A.length++(cB c r (A.length+(cS c x A.length).length)++B)):=fun{x r A B} hL=>by
  rw[hL];show A++((cS c x A.length++cB c r _)++B)=_;simp only[aFb]
 have tot:∀(x:PS) (r:List PS) (A:List Ins),A.length+(cB c (x::r) A.length).length=A.length+(cS c x A.length).length+(cB c r (A.length+(cS c x A.length).length)).length:=fun x r A=>by
  show A.length+(cS c x A.length++cB c r _).length=_;rw[lap];omega
 have nxt:∀{x:PS} {r:List PS} {A B:List Ins} {d1 d':Dv},s.code=A++(cB c (x::r) A.length++B)→(∀A B,s.code=A++(cB c r A.length++B)→d1.fault=false→Out s d1 d' A.length (A.length+(cB c r A.length).length))→d1.fault=false→Out s d1 d' (A.length+(cS c x A.length).length) (A.length+(cB c (x::r) A.length).length):=fun{x r A B d1 d'} hL ih hf=>by
  have:=ih (A++cS c x A.length) B (by rw[rest hL,lap];simp only[aFb]) hf
  rw[lap]at this
  rw[tot];exact this
 have hle:∀{es:List PE} {A B:List Ins},s.code=A++(hdC c es++B)→(hdC c es).length+A.length+B.length≤3816:=fun{es A B} hL=>by
  have:=congrArg List.length hL;rw[lap,lap]at this;omega
 induction h with
 |nil d=>intro _ A B _ hf;exact Out.refl hf
 |fin x r d h=>intro _ A B _ hf;rw[h]at hf;cases hf
 | poor x r d h hk=>
   intro _ A B hL hf
   have hL:=rest hL
   rw[qY]at hL
   refine⟨1, .inr ⟨⟨rfl,by show(1:Int)≤4000*(d.cost-d.cost)+4000;omega⟩,fun f=>?_⟩⟩
   rw[aJy (x:=⟨29,0,0,0⟩) (atA hL),OQ rfl]
   have e1:decide ((st d (A.length+1) []).cost=200)=true:=aEk hk
   have e2:min ((st d (A.length+1) []).cost+1) 200=d.cost:=by show min (d.cost+1) 200=d.cost;omega
   rw[aEh e1,e1,e2];rfl
 | one k nm hd es r d d' h hk hkk h2 ih=>
   intro hw A B hL hf
   have hx:=hw _ (aEd ..)
   have key:∀y:Ins,cS c ⟨k,nm,hd,es,[],[]⟩ A.length=hdC c es++[y]→(∀e∈es,WfE 5 e)→
       ((k=1∧y=⟨24,c.vs nm,0,0⟩∧∃a,aIs c s (pF d) es=[a])∨(k=2∧y=⟨25,c.ts nm,0,0⟩∧∃a b,aIs c s (pF d) es=[a,b])∨(k=3∧y=⟨26,c.ts nm,0,0⟩∧∃a,aIs c s (pF d) es=[a])∨(k=6∧y=⟨30,(c.tg nm hd).1,(c.tg nm hd).2,(((aIs c s (pF d) es).length:Nat):Int)⟩)∨(k=7∧y=⟨31,0,c.ah hd,(((aIs c s (pF d) es).length:Nat):Int)-1⟩∧∃a r,aIs c s (pF d) es=a::r)∨(k=10∧y=⟨34,0,0,0⟩))→
       Out s d d' A.length (A.length+(cB c (⟨k,nm,hd,es,[],[]⟩::r) A.length).length):=fun y e he hy=>by
    have hL1:=rest hL
    rw[e]at hL1
    have hL2:s.code=(A++hdC c es)++(y::(cB c r (A.length+(hdC c es++[y]).length)++B)):=by rw[hL1];simp only[aFb,aGp,aGi]
    have hl:=hle (es:=es) (A:=A) (B:=y::(cB c r (A.length+(hdC c es++[y]).length)++B)) (by rw[hL2,aFb])
    have h1:=aJm hc he (A:=A) (B:=y::(cB c r (A.length+(hdC c es++[y]).length)++B)) (by rw[hL2,aFb]) hf hk
    have hq:=atA hL2
    rw[lap]at hq
    have hpos:A.length+(cS c ⟨k,nm,hd,es,[],[]⟩ A.length).length=A.length+(hdC c es).length+1:=by rw[e,Wm];omega
    rcases aKz (c:=c) (d:=pF d) (nm:=nm) (hd:=hd) hf hq hy with⟨g1,g2⟩|⟨g1,g2⟩
    · have hn:=nxt hL (fun A B hL hf=>ih (fun x hx=>hw x (aEb _ hx)) A B hL hf) g1
      rw[hpos]at hn
      exact aKb (h1.trans g2) (by rw[aJh];rfl) om hn
    · obtain rfl:=h2.done g1
      refine⟨(hdC c es).length+1, .inr ⟨⟨g1,by rw[aJh];show _≤4000*(d.cost+1-d.cost)+4000;omega⟩,fun f=>?_⟩⟩
      rw[show f+((hdC c es).length+1)=(f+1)+(hdC c es).length by omega,h1,g2]
   have two:∀{es:List PE},es.length=2→∃a b,aIs c s (pF d) es=[a,b]:=fun{es} h=>by
    match es,h with
    |[a,b],_=>exact⟨_,_,rfl⟩
   have one':∀{es:List PE},es.length=1→∃a,aIs c s (pF d) es=[a]:=fun{es} h=>by
    match es,h with
    |[a],_=>exact⟨_,rfl⟩
   have hel:(aIs c s (pF d) es).length=es.length:=by rw[aIv,aEg]
   cases hx with
   | one _ _ _ _ hz he=>
     rcases hz with⟨rfl,hn⟩|⟨rfl,hn⟩|⟨rfl,hn⟩|⟨rfl,hn⟩|⟨rfl,hn,hn2⟩
     ·exact key _ rfl he (.inl ⟨rfl,rfl,one' hn⟩)
     ·exact key _ rfl he (.inr (.inl ⟨rfl,rfl,two hn⟩))
     ·exact key _ rfl he (.inr (.inr (.inl ⟨rfl,rfl,one' hn⟩)))
     ·exact key ⟨30,(c.tg nm hd).1,(c.tg nm hd).2,((es.length:Nat):Int)⟩ rfl he (.inr (.inr (.inr (.inl ⟨rfl,by rw[hel]⟩))))
     · refine key ⟨31,0,c.ah hd,((es.length:Nat):Int)-1⟩ rfl he (.inr (.inr (.inr (.inr (.inl ⟨rfl,by rw[hel],?_⟩)))))
       cases es with
       |nil=>simp at hn
       |cons a r=>exact⟨_,_,rfl⟩
   |ife=>omega
   |whl=>omega
   |sto=>omega
   |fet=>omega
   |stop=>exact key _ rfl (fun e he=>by cases he) (.inr (.inr (.inr (.inr (.inr ⟨rfl,rfl⟩)))))
 | ife nm hd a t e r d d1 d' h hk h1 h2 ih1 ih2=>
   intro hw A B hL hf
   obtain⟨ha,ht,he⟩:WfE 5 a∧(∀x∈t,WfS x)∧∀x∈e,WfS x:=by
    cases hw _ (aEd ..)with
    |one _ _ _ _ hz _=>omega
    |ife _ _ _ _ _ ha ht he=>exact⟨ha,ht,he⟩
   obtain⟨R,hR⟩:∃R,A.length+(hdC c [a]).length+1=R:=⟨_,rfl⟩
   obtain⟨y,hy⟩:∃y:Ins,y=⟨28,((R+(cB c t R).length+(if e.isEmpty then 0 else 1):Nat):Int),0,0⟩:=⟨_,rfl⟩
   have e0:cS c ⟨4,nm,hd,[a],t,e⟩ A.length=hdC c [a]++(y::(cB c t R++ovr (R+(cB c t R).length) (cB c e (R+(cB c t R).length+1)) e.isEmpty)):=by rw[hy,←hR];rfl
   have hL1:=rest hL
   obtain⟨Z,hZ⟩:∃Z,cB c r (A.length+(cS c ⟨4,nm,hd,[a],t,e⟩ A.length).length)++B=Z:=⟨_,rfl⟩
   rw[hZ,e0]at hL1
   obtain⟨X,hX⟩:∃X,X=A++(hdC c [a]++[y]):=⟨_,rfl⟩
   have hXl:X.length=R:=by rw[hX,←hR,lap,Wm];omega
   have hL2:s.code=(A++hdC c [a])++(y::(cB c t R++(ovr (R+(cB c t R).length) (cB c e (R+(cB c t R).length+1)) e.isEmpty++Z))):=by rw[hL1];simp only[aFb,aGp]
   have hL3:s.code=X++(cB c t X.length++(ovr (R+(cB c t R).length) (cB c e (R+(cB c t R).length+1)) e.isEmpty++Z)):=by rw[hL2,hX,←hX,hXl,hX];simp only[aFb,aGp,aGi]
   have hl:=hle (es:=[a]) (A:=A) (by rw[hL2,aFb])
   have g1:=aJm hc (Yl ha) (A:=A) (by rw[hL2,aFb]) hf hk
   have hq:=atA hL2
   rw[lap,hy]at hq
   have hYl:(X++cB c t R).length=R+(cB c t R).length:=by rw[lap,hXl]
   have hL4:s.code=(X++cB c t R)++(ovr (X++cB c t R).length (cB c e ((X++cB c t R).length+1)) e.isEmpty++Z):=by rw[hYl,hL3,hXl];simp only[aFb]
   have hend:A.length+(cS c ⟨4,nm,hd,[a],t,e⟩ A.length).length=(X++cB c t R).length+(ovr (X++cB c t R).length (cB c e ((X++cB c t R).length+1)) e.isEmpty).length:=by rw[hYl,e0,lap,lc1,lap];omega
   have hnx:=fun hf=>nxt hL (fun A B hL hf=>ih2 (fun x hx=>hw x (aEb _ hx)) A B hL hf) hf
   rw[hend]at hnx
   by_cases hv:evE c s (pF d) a=0
   · rw[aEh hv]at h1 ih1
     have b1:=aJp (d:=pF d) (v:=evE c s (pF d) a) hq hf (p:=R+(cB c t R).length+(if e.isEmpty then 0 else 1)) (by rw[aEh hv])
     have k1:=aJz (d:=pF d) (d1:=d1) hL4 fun A B hL=>ih1 he A B hL hf
     rw[hYl]at k1
     refine aIy (g1.trans b1) rfl om k1 (fun _=>⟨0,by omega,?_⟩) hnx (fun h=>h2.done h)
     rw[hYl];exact Rch.refl
   · rw[aEa hv]at h1 ih1
     have b1:=aJp (d:=pF d) (v:=evE c s (pF d) a) hq hf (p:=R) (by rw[aEa hv,hR])
     have k1:=ih1 ht X _ hL3 hf
     rw[hXl]at k1
     refine aIy (g1.trans b1) rfl om k1 (fun hf1=>?_) hnx (fun h=>h2.done h)
     obtain⟨m,hm,hs⟩:=aJr hL4 hf1
     refine⟨m,hm,?_⟩
     rw[←hYl];exact hs
 | whF nm hd a t r d d' h hk hv h2 ih=>
   intro hw A B hL hf
   obtain⟨ha,ht⟩:WfE 5 a∧(∀x∈t,WfS x):=by
    cases hw _ (aEd ..)with
    |one _ _ _ _ hz _=>omega
    |whl _ _ _ _ ha ht=>exact⟨ha,ht⟩
   obtain⟨R,hR⟩:∃R,A.length+(hdC c [a]).length+1=R:=⟨_,rfl⟩
   have e0:cS c ⟨5,nm,hd,[a],t,[]⟩ A.length=hdC c [a]++(⟨28,((R+(cB c t R).length+1:Nat):Int),0,0⟩::(cB c t R++[⟨27,((A.length:Nat):Int),0,0⟩])):=by rw[←hR];rfl
   have hL1:=rest hL
   rw[e0]at hL1
   have hL2:=hL1
   rw[aFb,←aFb A]at hL2
   have hl:=hle (es:=[a]) (A:=A) (by rw[hL2,aFb])
   have g1:=aJm hc (Yl ha) (A:=A) (by rw[hL2,aFb]) hf hk
   have hq:=atA hL2
   rw[lap]at hq
   have b1:=aJp (d:=pF d) (v:=evE c s (pF d) a) hq hf (p:=R+(cB c t R).length+1) (by rw[aEh hv])
   have hend:A.length+(cS c ⟨5,nm,hd,[a],t,[]⟩ A.length).length=R+(cB c t R).length+1:=by rw[e0,lap,lc1,Wm];omega
   have hnx:=nxt hL (fun A B hL hf=>ih (fun x hx=>hw x (aEb _ hx)) A B hL hf) hf
   rw[hend]at hnx
   exact aKb (g1.trans b1) rfl om hnx
 | whT nm hd a t r d d1 d' h hk hv h1 h2 ih1 ih2=>
   intro hw A B hL hf
   obtain⟨ha,ht⟩:WfE 5 a∧(∀x∈t,WfS x):=by
    cases hw _ (aEd ..)with
    |one _ _ _ _ hz _=>omega
    |whl _ _ _ _ ha ht=>exact⟨ha,ht⟩
   obtain⟨R,hR⟩:∃R,A.length+(hdC c [a]).length+1=R:=⟨_,rfl⟩
   obtain⟨y,hy⟩:∃y:Ins,y=⟨28,((R+(cB c t R).length+1:Nat):Int),0,0⟩:=⟨_,rfl⟩
   have e0:cS c ⟨5,nm,hd,[a],t,[]⟩ A.length=hdC c [a]++(y::(cB c t R++[⟨27,((A.length:Nat):Int),0,0⟩])):=by rw[hy,←hR];rfl
   have hL1:=rest hL
   obtain⟨Z,hZ⟩:∃Z,cB c r (A.length+(cS c ⟨5,nm,hd,[a],t,[]⟩ A.length).length)++B=Z:=⟨_,rfl⟩
   rw[hZ,e0]at hL1
   obtain⟨X,hX⟩:∃X,X=A++(hdC c [a]++[y]):=⟨_,rfl⟩
   have hXl:X.length=R:=by rw[hX,←hR,lap,Wm];omega
   have hL2:s.code=(A++hdC c [a])++(y::(cB c t R++(⟨27,((A.length:Nat):Int),0,0⟩::Z))):=by rw[hL1];simp only[aFb,aGp,aGi]
   have hL3:s.code=X++(cB c t X.length++(⟨27,((A.length:Nat):Int),0,0⟩::Z)):=by rw[hL2,hXl,hX];simp only[aFb,aGp,aGi]
   have hL4:s.code=(X++cB c t R)++(⟨27,((A.length:Nat):Int),0,0⟩::Z):=by rw[hL3,hXl,aFb]
   have hl:=hle (es:=[a]) (A:=A) (by rw[hL2,aFb])
   have g1:=aJm hc (Yl ha) (A:=A) (by rw[hL2,aFb]) hf hk
   have hq:=atA hL2
   rw[lap,hy]at hq
   have b1:=aJp (d:=pF d) (v:=evE c s (pF d) a) hq hf (p:=R) (by rw[aEa hv,hR])
   have k1:=ih1 ht X _ hL3 hf
   rw[hXl]at k1
   have hj:=atA hL4
   rw[lap,hXl]at hj
   exact aIy (g1.trans b1) rfl om k1 (fun hf1=>⟨1,by omega,Rch.one hj (by rw[OO rfl];rfl) hf1⟩) (fun hf1=>ih2 hw A B hL hf1) (fun h=>h2.done h)
 | sto nm hd a b e r d d1 d' h hk h1 h2 ih1 ih2=>
   intro hw A B hL hf
   obtain⟨ha,hb,he⟩:WfE 5 a∧WfE 5 b∧∀x∈e,WfS x:=by
    cases hw _ (aEd ..)with
    |one _ _ _ _ hz _=>omega
    |sto _ _ _ _ _ ha hb he=>exact⟨ha,hb,he⟩
   obtain⟨R,hR⟩:∃R,A.length+(hdC c [a,b]).length+1=R:=⟨_,rfl⟩
   obtain⟨y,hy⟩:∃y:Ins,y=⟨32,0,((R+(if e.isEmpty then 0 else 1):Nat):Int),0⟩:=⟨_,rfl⟩
   have e0:cS c ⟨8,nm,hd,[a,b],[],e⟩ A.length=hdC c [a,b]++(y::ovr R (cB c e (R+1)) e.isEmpty):=by rw[hy,←hR];rfl
   have hL1:=rest hL
   obtain⟨Z,hZ⟩:∃Z,cB c r (A.length+(cS c ⟨8,nm,hd,[a,b],[],e⟩ A.length).length)++B=Z:=⟨_,rfl⟩
   rw[hZ,e0]at hL1
   obtain⟨X,hX⟩:∃X,X=A++(hdC c [a,b]++[y]):=⟨_,rfl⟩
   have hXl:X.length=R:=by rw[hX,←hR,lap,Wm];omega
   have hL2:s.code=(A++hdC c [a,b])++(y::(ovr R (cB c e (R+1)) e.isEmpty++Z)):=by rw[hL1];simp only[aFb,aGp]
   have hL4:s.code=X++(ovr X.length (cB c e (X.length+1)) e.isEmpty++Z):=by rw[hL2,hXl,hX];simp only[aFb,aGp,aGi]
   have hl:=hle (es:=[a,b]) (A:=A) (by rw[hL2,aFb])
   have g1:=aJm hc (LW ha hb) (A:=A) (by rw[hL2,aFb]) hf hk
   have hq:=atA hL2
   rw[lap,hy]at hq
   have hend:A.length+(cS c ⟨8,nm,hd,[a,b],[],e⟩ A.length).length=X.length+(ovr X.length (cB c e (X.length+1)) e.isEmpty).length:=by rw[hXl,e0,lap,lc1];omega
   have hnx:=fun hf=>nxt hL (fun A B hL hf=>ih2 (fun x hx=>hw x (aEb _ hx)) A B hL hf) hf
   rw[hend]at hnx
   by_cases hv:aIw s d=true
   · rw[aEh hv]at h1 ih1
     have b1:=aKc (d:=pF d) (k:=evE c s (pF d) a) (v:=evE c s (pF d) b) hq hf (p:=R+(if e.isEmpty then 0 else 1)) (by rw[aEh (show aIw s (pF d)=true from hv)])
     have k1:=aJz hL4 fun A B hL=>ih1 he A B hL hf
     rw[hXl]at k1 hnx
     exact aIy (g1.trans b1) rfl om k1 (fun _=>⟨0,by omega,Rch.refl⟩) hnx (fun h=>h2.done h)
   · rw[aEa hv]at h1 ih1
     have b1:=aKc (d:=pF d) (k:=evE c s (pF d) a) (v:=evE c s (pF d) b) hq hf (p:=R) (by rw[aEa (show¬aIw s (pF d)=true from hv),hR])
     cases h1
     exact aIy (g1.trans b1) rfl om (Out.refl (p:=R) hf) (fun hf1=>by have:=aJr hL4 hf1;rw[hXl]at this⊢;exact this) hnx (fun h=>h2.done h)
 | fet nm hd a e r d d1 d' h hk h1 h2 ih1 ih2=>
   intro hw A B hL hf
   obtain⟨ha,he⟩:WfE 5 a∧∀x∈e,WfS x:=by
    cases hw _ (aEd ..)with
    |one _ _ _ _ hz _=>omega
    |fet _ _ _ _ ha he=>exact⟨ha,he⟩
   obtain⟨R,hR⟩:∃R,A.length+(hdC c [a]).length+1=R:=⟨_,rfl⟩
   obtain⟨y,hy⟩:∃y:Ins,y=⟨33,c.vs nm,((R+(if e.isEmpty then 0 else 1):Nat):Int),0⟩:=⟨_,rfl⟩
   have e0:cS c ⟨9,nm,hd,[a],[],e⟩ A.length=hdC c [a]++(y::ovr R (cB c e (R+1)) e.isEmpty):=by rw[hy,←hR];rfl
   have hL1:=rest hL
   obtain⟨Z,hZ⟩:∃Z,cB c r (A.length+(cS c ⟨9,nm,hd,[a],[],e⟩ A.length).length)++B=Z:=⟨_,rfl⟩
   rw[hZ,e0]at hL1
   obtain⟨X,hX⟩:∃X,X=A++(hdC c [a]++[y]):=⟨_,rfl⟩
   have hXl:X.length=R:=by rw[hX,←hR,lap,Wm];omega
   have hL2:s.code=(A++hdC c [a])++(y::(ovr R (cB c e (R+1)) e.isEmpty++Z)):=by rw[hL1];simp only[aFb,aGp]
   have hL4:s.code=X++(ovr X.length (cB c e (X.length+1)) e.isEmpty++Z):=by rw[hL2,hXl,hX];simp only[aFb,aGp,aGi]
   have hl:=hle (es:=[a]) (A:=A) (by rw[hL2,aFb])
   have g1:=aJm hc (Yl ha) (A:=A) (by rw[hL2,aFb]) hf hk
   have hq:=atA hL2
   rw[lap,hy]at hq
   have hend:A.length+(cS c ⟨9,nm,hd,[a],[],e⟩ A.length).length=X.length+(ovr X.length (cB c e (X.length+1)) e.isEmpty).length:=by rw[hXl,e0,lap,lc1];omega
   have hnx:=fun hf=>nxt hL (fun A B hL hf=>ih2 (fun x hx=>hw x (aEb _ hx)) A B hL hf) hf
   rw[hend]at hnx
   have hff:(aJj s (pF d) (c.vs nm).toNat (evE c s (pF d) a)).fault=false:=by rw[aKh];exact hf
   have hcc:(aJj s (pF d) (c.vs nm).toNat (evE c s (pF d) a)).cost=d.cost+1:=by rw[aJl];rfl
   by_cases hv:aIw s d=true
   · rw[aEh hv]at h1 ih1
     have b1:=aKd (d:=pF d) (k:=evE c s (pF d) a) hq hf (p:=R+(if e.isEmpty then 0 else 1)) (by rw[aEh (show aIw s (pF d)=true from hv)])
     have k1:=aJz hL4 fun A B hL=>ih1 he A B hL hff
     rw[hXl]at k1 hnx
     exact aIy (g1.trans b1) hcc om k1 (fun _=>⟨0,by omega,Rch.refl⟩) hnx (fun h=>h2.done h)
   · rw[aEa hv]at h1 ih1
     have b1:=aKd (d:=pF d) (k:=evE c s (pF d) a) hq hf (p:=R) (by rw[aEa (show¬aIw s (pF d)=true from hv),hR])
     cases h1
     exact aIy (g1.trans b1) hcc om (Out.refl (p:=R) hff) (fun hf1=>by have:=aJr hL4 hf1;rw[hXl]at this⊢;exact this) hnx (fun h=>h2.done h)
theorem aLl(hc:c.Loads)(hlen:s.code.length≤3816){l:List PS}{d d':Dv}(h:Bd c s l (st d 0 []) d')(hw:∀x∈l,WfS x)(hL:s.code=cB c l 0)(hf:d.fault=false)(hz:d.cost=0):rs (Nl s 1048576 (st d 0 []))=rs d':=by
 have hcost:=h.cost (by show d.cost≤200;omega)
 obtain⟨n,⟨⟨h1,h2⟩,h3⟩|⟨⟨h1,h2⟩,h3⟩⟩:=aLk hc hlen h hw [] [] (by rw[aEz];exact hL) hf
 · have h2:(n:Int)≤4000*(d'.cost-d.cost):=h2
   have h3:=h3 (1048576-n)
   rw[show 1048576-n+n=1048576 by omega]at h3
   have h4:=Zv (s:=s) (d:=st d' (([]:List Ins).length+(cB c l ([]:List Ins).length).length) []) (by
    show¬(((0+(cB c l 0).length:Nat)):Int)<_
    rw[hL];omega) (1048576-n)
   rw[h4]at h3
   have h3:Nl s 1048576 (st d 0 [])=st d' _ []:=h3
   rw[h3];rfl
 · have h2:(n:Int)≤4000*(d'.cost-d.cost)+4000:=h2
   have h3:=h3 (1048576-n)
   rw[show 1048576-n+n=1048576 by omega]at h3
   exact h3
end
theorem aJs(b:Nat)(s:Sm)(hh:Hd)(F:Fl)(oi:Nat)(d:Dm)(hel:d.effs.length≤4000000):
    Dz 40 [pv b] [box b (cT s hh F oi d) 136,rows aLz 2 1 d.Av d.qv d.vars,rows Tb.cells 58 1 d.At d.qt d.tabs,De Be (d.tabs.map Tb.ar),ros Be d.dk.A d.dk.l,rows Dp 131 8 d.Ae d.qe d.effs,De aLz (d.effs.map Ef.ar),rows aLz 2 1 d.As d.qs d.stack] (fun r Γ'=>r= .tuple #[]∧∃d':Dm,Γ'=[box b (cT s hh F oi d') 136,rows aLz 2 1 d'.Av d'.qv d'.vars,rows Tb.cells 58 1 d'.At d'.qt d'.tabs,De Be (d'.tabs.map Tb.ar),ros Be d'.dk.A d'.dk.l,rows Dp 131 8 d'.Ae d'.qe d'.effs,De aLz (d'.effs.map Ef.ar),rows aLz 2 1 d'.As d'.qs d'.stack]∧d'.val=OI d.val):=by
 refine Am func40 ntmps40 fun w0=>?_
 refine Jz 8 ?_
 refine Mg (c:=ros aLz none []) rfl rfl (fun w=> .inl rfl) (Jz 7 ?_)
 refine Jr (.bd [iv 5,iv 0,iv 0,iv 0,iv 0,iv 0, .bool false,nz]) ?_
 refine Eg [iv 5,iv 0,iv 0,iv 0,iv 0,iv 0, .bool false,nz] fun b12=>?_
 refine Jge rfl rfl rfl (Bg kW (i:=7) (j:=0) (el:=(⟨5,0,0,0,0,0,false,none,0,([]:List Int)⟩:Ef)) rfl s79 rfl rfl rfl rfl rfl om om) ?_
 rintro _ _ ⟨A13,q13,rfl,rfl⟩
 refine Jz 5 ?_
 refine La ((d.effs++[(⟨5,0,0,0,0,0,false,none,0,([]:List Int)⟩:Ef)]).map Ef.ar) 8 rfl (Ih (mog (i:=1) rfl)) (Jk (Cu (Df (Ej (Ej (Ej (Ej (Ej (Ej (Co (.inr rfl) results40 ?_))))))))))
 exact⟨rfl,(⟨d.Av,d.qv,d.vars,d.At,d.qt,d.tabs,⟨d.dk.A,d.dk.q,d.dk.l⟩,A13,q13,(d.effs++[(⟨5,0,0,0,0,0,false,none,0,([]:List Int)⟩:Ef)]),d.cost,d.As,d.qs,d.stack,d.next,d.sends,d.disks,true⟩:Dm),rfl,by simp[OI,Zu,Ph,Dm.val,Ef.val]⟩
theorem aKn(b:Nat)(s:Sm)(hh:Hd)(F:Fl)(oi:Nat)(d:Dm)(hel:d.effs.length≤4000000)(hc:0≤d.cost∧d.cost≤200):
    Dz 70 [pv b] [box b (cT s hh F oi d) 136,rows aLz 2 1 d.Av d.qv d.vars,rows Tb.cells 58 1 d.At d.qt d.tabs,De Be (d.tabs.map Tb.ar),ros Be d.dk.A d.dk.l,rows Dp 131 8 d.Ae d.qe d.effs,De aLz (d.effs.map Ef.ar),rows aLz 2 1 d.As d.qs d.stack] (fun r Γ'=>r= .bool (decide (d.cost<200))∧∃d':Dm,Γ'=[box b (cT s hh F oi d') 136,rows aLz 2 1 d'.Av d'.qv d'.vars,rows Tb.cells 58 1 d'.At d'.qt d'.tabs,De Be (d'.tabs.map Tb.ar),ros Be d'.dk.A d'.dk.l,rows Dp 131 8 d'.Ae d'.qe d'.effs,De aLz (d'.effs.map Ef.ar),rows aLz 2 1 d'.As d'.qs d'.stack]∧d'.val=YS d.val):=by
 have hcs:0≤d.cost∧d.cost≤200:=hc
 refine Am func70 ntmps70 fun w0=>?_
 refine Jz 16 ?_
 refine Jcp rfl ?_ ?_<;>intro c8
 refine Jz 3 ?_
 refine Jcf [0,0,0,0,0,0,0,0] (aJs b s hh F oi d hel) ?_
 rintro _ _ ⟨rfl,d',rfl,hv⟩
 refine Jz 9 ?_
 refine Je1 results70 ?_
 exact⟨congrArg Value.bool (aEo om).symm,d',rfl,by rw[hv];exact(aEh (show 200≤d.val.cost from c8)).symm⟩
 refine Jz 9 ?_
 refine Jr (Hl rfl rfl rfl om) ?_
 refine Jz 12 ?_
 refine Je1 results70 ?_
 exact⟨congrArg Value.bool (aEk om).symm,(⟨d.Av,d.qv,d.vars,d.At,d.qt,d.tabs,⟨d.dk.A,d.dk.q,d.dk.l⟩,d.Ae,d.qe,d.effs,d.cost+1,d.As,d.qs,d.stack,d.next,d.sends,d.disks,d.fault⟩:Dm),rfl,(aEa (show¬200≤d.val.cost from c8)).symm⟩
theorem aKe(b:Nat)(s:Sm)(hh:Hd)(F:Fl)(oi:Nat)(d:Dm)(e:Ef)(hel:d.effs.length≤4000000)(hs:0≤d.sends∧d.sends≤8):
    Dz 71 [pv b, .agg #[iv e.k,iv e.to,iv e.h,iv e.d,iv e.key,iv e.v, .bool e.f,vs e.A e.args e.q]] [box b (cT s hh F oi d) 136,rows aLz 2 1 d.Av d.qv d.vars,rows Tb.cells 58 1 d.At d.qt d.tabs,De Be (d.tabs.map Tb.ar),ros Be d.dk.A d.dk.l,rows Dp 131 8 d.Ae d.qe d.effs,De aLz (d.effs.map Ef.ar),rows aLz 2 1 d.As d.qs d.stack,ros aLz e.A e.args] (fun r Γ'=>r= .tuple #[]∧∃d':Dm,Γ'=[box b (cT s hh F oi d') 136,rows aLz 2 1 d'.Av d'.qv d'.vars,rows Tb.cells 58 1 d'.At d'.qt d'.tabs,De Be (d'.tabs.map Tb.ar),ros Be d'.dk.A d'.dk.l,rows Dp 131 8 d'.Ae d'.qe d'.effs,De aLz (d'.effs.map Ef.ar),rows aLz 2 1 d'.As d'.qs d'.stack]∧d'.val=eB e.val d.val):=by
 have hss:0≤d.sends∧d.sends≤8:=hs
 refine Am func71 ntmps71 fun w0=>?_
 refine Js (To.g (Jbo fun b3=>?_))
 refine Jz 12 ?_
 refine Jcp rfl ?_ ?_<;>intro c8
 refine Jz 3 ?_
 refine Jcf [1,1,1,1,1,1,1,1] (aJs b s hh F oi d hel) ?_
 rintro _ _ ⟨rfl,d',rfl,hv⟩
 refine Jz 4 ?_
 refine Jk (Kt (Co (.inl rfl) results71 ?_))
 exact⟨rfl,d',rfl,by rw[hv];exact(aEh (show 8≤d.val.sends from c8)).symm⟩
 refine Jz 8 ?_
 refine Jr (Hl rfl rfl rfl om) ?_
 refine Jz 5 ?_
 refine Jfw [] [0,1,2,3,4,105,106,207,8508,9,10,11,512] (ocn _) ?_
 refine Jz 7 ?_
 refine Es [iv e.k,iv e.to,iv e.h,iv e.d,iv e.key,iv e.v, .bool e.f,vs e.A e.args e.q] fun b25=>?_
 refine Fw.ge rfl rfl rfl rfl (Bg kW (i:=7) (j:=0) (el:=e) rfl s79 rfl rfl rfl rfl rfl om om) ?_
 rintro _ _ ⟨A26,q26,rfl,rfl⟩
 refine⟨ocn _,?_⟩
 refine Jz 3 ?_
 refine Fw.up rfl rfl rfl (Up.store (i:=2) rfl rfl rfl c79 rfl rfl (bt1 rfl)) (ocn _) ?_
 refine Fw.fin ?_
 refine La ((d.effs++[e]).map Ef.ar) 8 rfl (Ih (mog (i:=10) rfl)) (Fy (Jk (Cu (Df (Ej (Ej (Ej (Ej (Ej (Ej (Co (.inr rfl) results71 ?_)))))))))))
 exact⟨rfl,(⟨d.Av,d.qv,d.vars,d.At,d.qt,d.tabs,⟨d.dk.A,d.dk.q,d.dk.l⟩,A26,q26,(d.effs++[e]),d.cost,d.As,d.qs,d.stack,d.next,d.sends+1,d.disks,d.fault⟩:Dm),rfl,by unfold eB;rw[aEa (show¬8≤d.val.sends from c8)];simp[Dm.val]⟩
theorem aJt(b:Nat)(s:Sm)(hh:Hd)(F:Fl)(oi:Nat)(d:Dm)(hd:0≤d.disks∧d.disks≤2000000)(hk:0≤s.dsk∧s.dsk≤1000000000)(hfl:s.fail.length≤1000000):
    Dz 121 [pv b] [box b (cT s hh F oi d) 136,rows aLz 2 1 d.Av d.qv d.vars,rows Tb.cells 58 1 d.At d.qt d.tabs,De Be (d.tabs.map Tb.ar),ros Be d.dk.A d.dk.l,rows Dp 131 8 d.Ae d.qe d.effs,De aLz (d.effs.map Ef.ar),rows aLz 2 1 d.As d.qs d.stack,ros aLz s.Af s.fail] (fun r Γ'=>r= .bool (decide (s.dsk+d.disks∈s.fail))∧∃d':Dm,Γ'=[box b (cT s hh F oi d') 136,rows aLz 2 1 d'.Av d'.qv d'.vars,rows Tb.cells 58 1 d'.At d'.qt d'.tabs,De Be (d'.tabs.map Tb.ar),ros Be d'.dk.A d'.dk.l,rows Dp 131 8 d'.Ae d'.qe d'.effs,De aLz (d'.effs.map Ef.ar),rows aLz 2 1 d'.As d'.qs d'.stack]∧d'={d with disks:=d.disks+1}):=by
 have hdd:0≤d.disks∧d.disks≤2000000:=hd
 have hds:0≤s.dsk∧s.dsk≤1000000000:=hk
 refine Am func121 ntmps121 fun w0=>?_
 refine Jz 6 ?_
 refine Jfw [] [0,1,2,3,5,6,7,104,108,9,10] (ocn _) ?_
 refine Jz 9 ?_
 refine Fw.f rfl (Hl rfl rfl rfl om) ?_
 refine Jz 9 ?_
 refine Jr (Hl rfl rfl rfl om) ?_
 refine Jz 18 ?_
 refine Lf (fun u g mz ρ Γ=>∃(i:Nat),ρ=[u 3,u 27,u 28,(29,nv i)]∧Γ=[g 0,g 1,g 2,g 3,g 4,g 5,g 6,g 7,g 8]∧mz=s.fail.length-i∧(i≤s.fail.length)∧(¬s.dsk+d.disks∈s.fail.take i)) ⟨⟨0,rfl,rfl,rfl,om,(by simp)⟩,sb⟩ ?_
 rintro mz _ _ ⟨i,rfl,rfl,rfl,hi,hI⟩
 refine Jz 6 ?_
 refine Jcp rfl ?_ ?_<;>intro c30
 obtain⟨x,hx⟩:=exg s.fail i om
 refine Jz 18 ?_
 refine Jcp rfl ?_ ?_<;>intro c35
 refine Jz 11 ?_
 refine Kt (Je1 results121 ?_)
 exact⟨congrArg Value.bool (aEk (by rw[←c35];exact mog hx)).symm,(⟨d.Av,d.qv,d.vars,d.At,d.qt,d.tabs,⟨d.dk.A,d.dk.q,d.dk.l⟩,d.Ae,d.qe,d.effs,d.cost,d.As,d.qs,d.stack,d.next,d.sends,d.disks+1,d.fault⟩:Dm),rfl,rfl⟩
 refine Jz 8 ?_
 refine Ot [(3,iv (s.dsk+d.disks)),(27,vs s.Af s.fail s.qf),(28,nv s.fail.length),(29,nv ((i+1)))] sb ?_
 refine Jag (s.fail.length-(i+1)) om ⟨i+1,rfl,rfl,rfl,om,(fun h=>by
  rw[Cf hx]at h
  rcases aFi.1 h with h1|h1
  ·exact hI h1
  ·rw[aEr]at h1;exact c35 h1.symm)⟩
 refine Jz 11 ?_
 refine Kt (Je1 results121 ?_)
 exact⟨congrArg Value.bool (aEo (by rw[show s.fail=s.fail.take i from(aEm om).symm];exact hI)).symm,(⟨d.Av,d.qv,d.vars,d.At,d.qt,d.tabs,⟨d.dk.A,d.dk.q,d.dk.l⟩,d.Ae,d.qe,d.effs,d.cost,d.As,d.qs,d.stack,d.next,d.sends,d.disks+1,d.fault⟩:Dm),rfl,rfl⟩
theorem aKr(b:Nat)(s:Sm)(hh:Hd)(F:Fl)(oi:Nat)(d:Dm)(k v:Int)(hel:d.effs.length≤4000000)(hd:0≤d.disks∧d.disks≤2000000)(hk:0≤s.dsk∧s.dsk≤1000000000)(hfl:s.fail.length≤1000000)(hg:Good d.dk.l):
    Dz 72 [pv b,iv k,iv v] [box b (cT s hh F oi d) 136,rows aLz 2 1 d.Av d.qv d.vars,rows Tb.cells 58 1 d.At d.qt d.tabs,De Be (d.tabs.map Tb.ar),ros Be d.dk.A d.dk.l,rows Dp 131 8 d.Ae d.qe d.effs,De aLz (d.effs.map Ef.ar),rows aLz 2 1 d.As d.qs d.stack,ros aLz s.Af s.fail] (fun r Γ'=>r= .bool (decide (s.dsk+d.disks∈s.fail))∧∃d':Dm,Γ'=[box b (cT s hh F oi d') 136,rows aLz 2 1 d'.Av d'.qv d'.vars,rows Tb.cells 58 1 d'.At d'.qt d'.tabs,De Be (d'.tabs.map Tb.ar),ros Be d'.dk.A d'.dk.l,rows Dp 131 8 d'.Ae d'.qe d'.effs,De aLz (d'.effs.map Ef.ar),rows aLz 2 1 d'.As d'.qs d'.stack]∧d'.val=rC s k v d.val):=by
 refine Am func72 ntmps72 fun w0=>?_
 refine Jz 8 ?_
 refine Jcf [0,0,0,0,0,0,0,0,0] (aJt b s hh F oi d hd hk hfl) ?_
 rintro _ _ ⟨rfl,_,rfl,rfl⟩
 refine Jz 10 ?_
 refine Ed rfl ?_ ?_<;>intro c11
 refine Jz 10 ?_
 refine Jcf [4] (vI d.dk.A d.dk.q d.dk.l k v hg) ?_
 rintro _ _ ⟨Bd,qd,rfl,rfl⟩
 refine Jz 8 ?_
 refine Mg (c:=ros aLz none []) rfl rfl (fun w=> .inl rfl) (Jz 10 ?_)
 refine Jr (.bd [iv 3,iv 0,iv 0,iv 0,iv k,iv v, .bool (decide (s.dsk+d.disks∈s.fail)),nz]) ?_
 refine Eg [iv 3,iv 0,iv 0,iv 0,iv k,iv v, .bool (decide (s.dsk+d.disks∈s.fail)),nz] fun b36=>?_
 refine Jge rfl rfl rfl (Bg kW (i:=7) (j:=0) (el:=(⟨3,0,0,0,k,v,(decide (s.dsk+d.disks∈s.fail)),none,0,([]:List Int)⟩:Ef)) rfl s79 rfl rfl rfl rfl rfl om om) ?_
 rintro _ _ ⟨A37,q37,rfl,rfl⟩
 refine Jz 13 ?_
 refine La ((d.effs++[(⟨3,0,0,0,k,v,(decide (s.dsk+d.disks∈s.fail)),none,0,([]:List Int)⟩:Ef)]).map Ef.ar) 8 rfl (Ih (mog (i:=1) rfl)) (Jk (Cu (Df (Ej (Jj (Ej (Ej (Ej (Ej (Je1 results72 ?_))))))))))
 have hb2:decide (s.dsk+d.disks∈s.fail)=false:=by simpa using c11
 have hb:decide (s.dsk+d.val.disks∈s.fail)=false:=hb2
 exact⟨rfl,(⟨d.Av,d.qv,d.vars,d.At,d.qt,d.tabs,⟨Bd,qd,(Oq d.dk.l k v)⟩,A37,q37,(d.effs++[(⟨3,0,0,0,k,v,(decide (s.dsk+d.disks∈s.fail)),none,0,([]:List Int)⟩:Ef)]),d.cost,d.As,d.qs,d.stack,d.next,d.sends,d.disks+1,d.fault⟩:Dm),rfl,by unfold rC;rw[hb];simp only[Dm.val,aEq,aFn,List.map_nil,Ef.val,hb2];rfl⟩
 refine Jz 3 ?_
 refine Mg (c:=ros aLz none []) rfl rfl (fun w=> .inl rfl) (Jz 10 ?_)
 refine Jr (.bd [iv 3,iv 0,iv 0,iv 0,iv k,iv v, .bool (decide (s.dsk+d.disks∈s.fail)),nz]) ?_
 refine Eg [iv 3,iv 0,iv 0,iv 0,iv k,iv v, .bool (decide (s.dsk+d.disks∈s.fail)),nz] fun b36_2=>?_
 refine Jge rfl rfl rfl (Bg kW (i:=7) (j:=0) (el:=(⟨3,0,0,0,k,v,(decide (s.dsk+d.disks∈s.fail)),none,0,([]:List Int)⟩:Ef)) rfl s79 rfl rfl rfl rfl rfl om om) ?_
 rintro _ _ ⟨A37_2,q37_2,rfl,rfl⟩
 refine Jz 13 ?_
 refine La ((d.effs++[(⟨3,0,0,0,k,v,(decide (s.dsk+d.disks∈s.fail)),none,0,([]:List Int)⟩:Ef)]).map Ef.ar) 8 rfl (Ih (mog (i:=1) rfl)) (Jk (Cu (Df (Ej (Ej (Ej (Ej (Ej (Ej (Je1 results72 ?_))))))))))
 have hb2:decide (s.dsk+d.disks∈s.fail)=true:=by simpa using c11
 have hb:decide (s.dsk+d.val.disks∈s.fail)=true:=hb2
 exact⟨rfl,(⟨d.Av,d.qv,d.vars,d.At,d.qt,d.tabs,⟨d.dk.A,d.dk.q,d.dk.l⟩,A37_2,q37_2,(d.effs++[(⟨3,0,0,0,k,v,(decide (s.dsk+d.disks∈s.fail)),none,0,([]:List Int)⟩:Ef)]),d.cost,d.As,d.qs,d.stack,d.next,d.sends,d.disks+1,d.fault⟩:Dm),rfl,by unfold rC;rw[hb];simp only[Dm.val,aEq,aFn,List.map_nil,Ef.val,hb2];rfl⟩
theorem aKs(b:Nat)(s:Sm)(hh:Hd)(F:Fl)(oi:Nat)(d:Dm)(j:Nat)(y k:Int)(hx:d.vars[j]?=some y)(hel:d.effs.length≤4000000)(hd:0≤d.disks∧d.disks≤2000000)(hk:0≤s.dsk∧s.dsk≤1000000000)(hfl:s.fail.length≤1000000)(hg:Good d.dk.l):
    Dz 73 [pv b,nv j,iv k] [box b (cT s hh F oi d) 136,rows aLz 2 1 d.Av d.qv d.vars,rows Tb.cells 58 1 d.At d.qt d.tabs,De Be (d.tabs.map Tb.ar),ros Be d.dk.A d.dk.l,rows Dp 131 8 d.Ae d.qe d.effs,De aLz (d.effs.map Ef.ar),rows aLz 2 1 d.As d.qs d.stack,ros aLz s.Af s.fail] (fun r Γ'=>r= .bool (decide (s.dsk+d.disks∈s.fail))∧∃d':Dm,Γ'=[box b (cT s hh F oi d') 136,rows aLz 2 1 d'.Av d'.qv d'.vars,rows Tb.cells 58 1 d'.At d'.qt d'.tabs,De Be (d'.tabs.map Tb.ar),ros Be d'.dk.A d'.dk.l,rows Dp 131 8 d'.Ae d'.qe d'.effs,De aLz (d'.effs.map Ef.ar),rows aLz 2 1 d'.As d'.qs d'.stack]∧d'.val=kX s j k d.val):=by
 have hjl:j<d.vars.length:=(aEc.1 hx).1
 refine Am func73 ntmps73 fun w0=>?_
 refine Jz 9 ?_
 refine Jcf [0,0,0,0,0,0,0,0,0] (aJt b s hh F oi d hd hk hfl) ?_
 rintro _ _ ⟨rfl,_,rfl,rfl⟩
 refine Jn (Jt (Ed rfl (fun c10=>?_) (fun c10=>?_)))
 refine Js (Mg (c:=ros aLz none []) rfl rfl (fun w=> .inl rfl) (Jz 8 ?_))
 refine Jr (.bd [iv 4,iv 0,iv 0,iv 0,iv k,iv 0, .bool true,nz]) ?_
 refine Eg [iv 4,iv 0,iv 0,iv 0,iv k,iv 0, .bool true,nz] fun b19=>?_
 refine Jge rfl rfl rfl (Bg kW (i:=7) (j:=0) (el:=(⟨4,0,0,0,k,0,true,none,0,([]:List Int)⟩:Ef)) rfl s79 rfl rfl rfl rfl rfl om om) ?_
 rintro _ _ ⟨A20,q20,rfl,rfl⟩
 refine Jz 13 ?_
 refine La ((d.effs++[(⟨4,0,0,0,k,0,true,none,0,([]:List Int)⟩:Ef)]).map Ef.ar) 8 rfl (Ih (mog (i:=1) rfl)) (Jk (Cu (Df (Ej (Ej (Ej (Ej (Ej (Ej (Je1 results73 ?_))))))))))
 have hb:decide (s.dsk+d.val.disks∈s.fail)=true:=c10
 exact⟨congrArg Value.bool c10.symm,(⟨d.Av,d.qv,d.vars,d.At,d.qt,d.tabs,⟨d.dk.A,d.dk.q,d.dk.l⟩,A20,q20,(d.effs++[(⟨4,0,0,0,k,0,true,none,0,([]:List Int)⟩:Ef)]),d.cost,d.As,d.qs,d.stack,d.next,d.sends,d.disks+1,d.fault⟩:Dm),rfl,by unfold kX;rw[aEh hb];simp[Dm.val,Ef.val]⟩
 refine Jz 11 ?_
 refine Jvf (fP d.dk.A d.dk.q d.dk.l k (by have:=hg.len;omega)) rfl (ocs (oca 4 rfl) (ocn _)) ?_
 refine Jz 18 ?_
 refine To.u (Up.store (i:=1) rfl rfl rfl c2 rfl rfl (Ee Cy (y:=((Fp d.dk.l k).getD 0)) (by decide) om)) ?_
 refine Jz 3 ?_
 refine Mg (c:=ros aLz none []) rfl rfl (fun w=> .inl rfl) (Jz 9 ?_)
 refine Jr (.bd [iv 4,iv 0,iv 0,iv 0,iv k,iv ((Fp d.dk.l k).getD 0), .bool false,nz]) ?_
 refine Eg [iv 4,iv 0,iv 0,iv 0,iv k,iv ((Fp d.dk.l k).getD 0), .bool false,nz] fun b53=>?_
 refine Jge rfl rfl rfl (Bg kW (i:=7) (j:=0) (el:=(⟨4,0,0,0,k,(Fp d.dk.l k).getD 0,false,none,0,([]:List Int)⟩:Ef)) rfl s79 rfl rfl rfl rfl rfl om om) ?_
 rintro _ _ ⟨A54,q54,rfl,rfl⟩
 refine Jz 12 ?_
 refine Jas [row 131 8 (some ⟨b53,0,none⟩) 1 1 [iv 4,iv 0,iv 0,iv 0,iv k,iv ((Fp d.dk.l k).getD 0), .bool false,nz],ros aLz none ([]:List Int),box b [vs s.Aa s.args s.qa,iv s.now,vs s.Ag s.flags s.qg,iv s.dsk,vs s.Af s.fail s.qf,vs d.Av (d.vars.set j ((Fp d.dk.l k).getD 0)) d.qv,vs d.At d.tabs d.qt,vs d.dk.A d.dk.l d.dk.q,vs A54 (d.effs++[(⟨4,0,0,0,k,(Fp d.dk.l k).getD 0,false,none,0,([]:List Int)⟩:Ef)]) q54,iv d.cost,vs d.As d.stack d.qs,iv (d.disks+1),iv d.sends, .bool d.fault, .string hh.name,vs hh.Ap hh.ps hh.qp,vs hh.Ab hh.body hh.qb, .string F.name,vs F.Af F.flags F.qf,vs F.Al F.links F.ql,vs F.Ac F.comps F.qc,nv oi] 136,rows aLz 2 1 d.Av d.qv (d.vars.set j ((Fp d.dk.l k).getD 0)),rows Tb.cells 58 1 d.At d.qt d.tabs,De Be (d.tabs.map Tb.ar),ros Be d.dk.A d.dk.l,rows Dp 131 8 A54 q54 (d.effs++[(⟨4,0,0,0,k,(Fp d.dk.l k).getD 0,false,none,0,([]:List Int)⟩:Ef)]),De aLz (d.effs.map Ef.ar),rows aLz 2 1 d.As d.qs d.stack] (by(try unfold vs);rw[aEj]<;>rfl) (La ((d.effs++[(⟨4,0,0,0,k,(Fp d.dk.l k).getD 0,false,none,0,([]:List Int)⟩:Ef)]).map Ef.ar) 8 rfl (Ih (mog (i:=1) rfl)) (Jk (Cu (Df (Ej (Ej (Ej (Ej (Ej (Ej (Je1 results73 ?_)))))))))))
 have hb:decide (s.dsk+d.val.disks∈s.fail)=false:=c10
 exact⟨congrArg Value.bool c10.symm,(⟨d.Av,d.qv,(d.vars.set j ((Fp d.dk.l k).getD 0)),d.At,d.qt,d.tabs,⟨d.dk.A,d.dk.q,d.dk.l⟩,A54,q54,(d.effs++[(⟨4,0,0,0,k,(Fp d.dk.l k).getD 0,false,none,0,([]:List Int)⟩:Ef)]),d.cost,d.As,d.qs,d.stack,d.next,d.sends,d.disks+1,d.fault⟩:Dm),rfl,by unfold kX;rw[aEa (by rw[hb];decide)];simp[Dm.val,Ef.val]⟩
end Go.Proofs.YtlihklladkagpaaGreatDoor

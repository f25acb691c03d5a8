/- Own text. -/
import Derived.Test.YtihgdnjkofpgiaaGreatDoorKa
import Derived.Test.YtihgdnjkofpgiaaGreatDoorBd
set_option linter.unusedVariables false
set_option linter.unusedSimpArgs false
namespace Go.Proofs.YtihgdnjkofpgiaaGreatDoor
open Go.RowKit Go.Flow Go.Mem Go.Sep Go.In
theorem nT(o:List yB)(h:PH)(l:List PH):cO o (h::l)=cO (if h.name∈o then o else o++[h.name]) l:=rfl
def OT(s:yB)(o:oP Hd)(l:List Hd):oP Hd:=l.foldl (fun(o:oP Hd) (h:Hd)=>if h.name=s then some h else o) o
def zJ(s:yB)(o:oP Hd)(l:List Vs):oP Hd:=l.foldl (fun(o:oP Hd) (v:Vs)=>OT s o v.l) o
theorem mdg{α β:Type}(f:α→β){l:List α}{k:Nat}{x:α}(hx:l[k]?=some x):(l.drop k).map f=f x::(l.drop (k+1)).map f:=by rw[dog hx];rfl
end Go.Proofs.YtihgdnjkofpgiaaGreatDoor
namespace Go.Sep
open Go.RowKit Go.Flow Go.Mem
section
variable{α:Type}{enc:α→List vU}{size:Nat}
theorem zK(E:Enc enc size){f:Nat}{u:vU}(hf:f<size){z:α}:∀(X:List α) (i:Nat) (y:α),X[i]?=some y→over (enc y) f [u]=enc z→over (X.flatMap enc) (i*size+f) [u]=(X.set i z).flatMap enc
 |[],i,y,h,_=>by simp at h
 | x::X,0,y,h,hz=>by
   obtain rfl:x=y:=by simpa using h
   unfold over at hz⊢;rw[Nat.zero_mul,aOz,aPl,List.set_cons_zero,aPl,←hz,aQs (by rw[E.len];omega),List.drop_append_of_le_length (by rw[E.len];show f+1≤size;omega)];simp
 | x::X,i+1,y,h,hz=>by
   have ih:=zK E hf X i y (by simpa using h) hz;unfold over at ih⊢;have e1:(i+1)*size+f=size+(i*size+f):=by rw[Nat.add_mul];omega
   rw[List.set_cons_succ,aPl,aPl,e1,←ih];rw[List.take_append,List.drop_append,aOq (by rw[E.len];omega),List.drop_of_length_le (by rw[E.len];omega),E.len,show size+(i*size+f)-size=i*size+f by omega,show size+(i*size+f)+[u].length-size=i*size+f+[u].length by omega];simp
theorem Qm(E:Enc enc size){e:tI}{A:OA}{cap i f:Nat}{X:List α}{y z:α}{u:vU}(hi:X[i]?=some y)(hf:f<size)(hz:over (enc y) f [u]=enc z):(rows enc e size A cap X).takes (blk A) (ofs A+i*size+f) [u] (rows enc e size A cap (X.set i z)):=by
 have hl:i<X.length:=(aNr.1 hi).1;have h:=eF (e:=e) (size:=size) (A:=A) (n:=X.length) (cap:=cap) (off:=i*size+f) (xs:=X.flatMap enc) (us:=[u]) (by
  have:(i+1)*size≤X.length*size:=Nat.mul_le_mul_right _ hl;rw[Nat.add_mul]at this;show i*size+f+1≤_;omega) sm (zK E hf X i y hi hz)
 have e1:rows enc e size A cap (X.set i z)=row e size A X.length cap ((X.set i z).flatMap enc):=by simp[rows]
 rw[e1,Nat.add_assoc];exact h
theorem zL{α:Type}(X Y:List α)(a:α):((X++[a])++Y)[X.length]?=some a:=by
 rw[aOt,aPj (aOd _)];simp
theorem nU{α:Type}(X Y:List α)(a b:α):((X++[a])++Y).set X.length b=(X++[b])++Y:=by
 rw[aOt,aOt,List.set_append_right _ _ (aOd _),aQf];rfl
end
end Go.Sep
namespace Go.Proofs.YtihgdnjkofpgiaaGreatDoor
open Go.RowKit Go.Flow Go.Mem Go.Sep Go.In
structure aNp(F:Fl):Prop where
 flags:F.flags.length≤100
 comps:F.comps.length≤100
 each:∀c∈F.comps,c.vars.length≤1000∧c.vers.length≤1000∧∀v∈c.vers,v.l.length≤100
theorem aCa(cc:Cc)(x:PE):cEs cc [x]=cE cc x:=aOo _
theorem zM(cc:Cc){l:List Ex}{j:Nat}{x:Ex}(h:l[j]?=some x):cEs cc (Cn (l.take (j+1)))=cEs cc (Cn (l.take j))++cE cc x.pure:=by
 rw[Cj h,Bi,aOb,JA,←Bi];congr 1;exact aCa cc x.pure
theorem aHd(cc:Cc){l:List Ex}{j:Nat}{x:Ex}(h:l[j]?=some x):(cEs cc (Cn (l.take j))).length+(cE cc x.pure).length≤(cEs cc (Cn l)).length:=by
 have e1:l=l.take (j+1)++l.drop (j+1):=(aPn ..).symm;have e2:cEs cc (Cn l)=cEs cc (Cn (l.take (j+1)))++cEs cc (Cn (l.drop (j+1))):=by
  conv=>lhs;rw[e1,Bi,aOb,JA]
  rw[Bi,Bi]
 rw[e2,zM cc h,aj,aj];omega
theorem aJ(cc:Cc):∀l:List Ex,l.length≤(cEs cc (Cn l)).length
 |[]=>aOk _
 | x::r=>by
   have:=aJ cc r;show r.length+1≤(cE cc x.pure++cEs cc (Cn r)).length;rw[aj];have h1:1≤(cE cc x.pure).length:=by rw[El,cE,aj];exact Nat.le_add_left _ _
   omega
def Sa(c:Cc):PS→Nat→Nat→List Ins
 | ⟨k,s,h,es,t,e⟩,n,top=>
   let p:=n+1;let j:Nat:=if e.isEmpty then 0 else 1
   if k=1 then [⟨24,c.vs s,0,0⟩]else if k=2 then [⟨25,c.ts s,0,0⟩]else if k=3 then [⟨26,c.ts s,0,0⟩]
    else if k=4 then⟨28,((p+(cB c t p).length+j:Nat):Int),0,0⟩::(cB c t p++ovr (p+(cB c t p).length) (cB c e (p+(cB c t p).length+1)) e.isEmpty)
    else if k=5 then⟨28,((p+(cB c t p).length+1:Nat):Int),0,0⟩::(cB c t p++[⟨27,((top:Nat):Int),0,0⟩])
    else if k=6 then [⟨30,(c.tg s h).1,(c.tg s h).2,((es.length:Nat):Int)⟩]
    else if k=7 then [⟨31,0,c.ah h,((es.length:Nat):Int)-1⟩]
    else if k=8 then⟨32,0,((p+j:Nat):Int),0⟩::ovr p (cB c e (p+1)) e.isEmpty
    else if k=9 then⟨33,c.vs s,((p+j:Nat):Int),0⟩::ovr p (cB c e (p+1)) e.isEmpty
    else if k=10 then [⟨34,0,0,0⟩]else []
theorem vP(c:Cc)(s:PS)(top:Nat):cS c s top=((⟨29,0,0,0⟩:Ins)::cEs c s.exprs)++Sa c s (top+(cEs c s.exprs).length+1) top:=by
 cases s;rfl
theorem aCb(c:Cc)(s:St){l X:List Ins}(hX:X=(l++[⟨29,0,0,0⟩])++cEs c (Cn s.exprs)):l++cS c s.pure l.length=X++Sa c s.pure X.length l.length:=by
 rw[vP,hX];have e1:((l++[(⟨29,0,0,0⟩:Ins)])++cEs c (Cn s.exprs)).length=l.length+(cEs c (Cn s.exprs)).length+1:=by
  rw[aj,aj];show l.length+1+_=_;omega
 have e2:s.pure.exprs=Cn s.exprs:=by rw[Ir]
 rw[e1,e2];simp only[aOt,aQp,aQj]
section
variable{c:Cc}{s:St}{n top:Nat}
theorem aDt(h:s.kind=1):Sa c s.pure n top=[⟨24,c.vs s.name,0,0⟩]:=by rw[Ir,h];rfl
theorem aDu(h:s.kind=2):Sa c s.pure n top=[⟨25,c.ts s.name,0,0⟩]:=by rw[Ir,h];rfl
theorem aDv(h:s.kind=3):Sa c s.pure n top=[⟨26,c.ts s.name,0,0⟩]:=by rw[Ir,h];rfl
theorem aDw(h:s.kind=4):Sa c s.pure n top=⟨28,((n+1+(cB c (Ai s.thn) (n+1)).length+(if(Ai s.els).isEmpty then 0 else 1):Nat):Int),0,0⟩::(cB c (Ai s.thn) (n+1)++ovr (n+1+(cB c (Ai s.thn) (n+1)).length) (cB c (Ai s.els) (n+1+(cB c (Ai s.thn) (n+1)).length+1)) (Ai s.els).isEmpty):=by rw[Ir,h];rfl
theorem aDx(h:s.kind=5):Sa c s.pure n top=⟨28,((n+1+(cB c (Ai s.thn) (n+1)).length+1:Nat):Int),0,0⟩::(cB c (Ai s.thn) (n+1)++[⟨27,((top:Nat):Int),0,0⟩]):=by rw[Ir,h];rfl
theorem aDy(h:s.kind=6):Sa c s.pure n top=[⟨30,(c.tg s.name s.hand).1,(c.tg s.name s.hand).2,((s.exprs.length:Nat):Int)⟩]:=by rw[Ir,h,←Fq s.exprs];rfl
theorem aDz(h:s.kind=7):Sa c s.pure n top=[⟨31,0,c.ah s.hand,((s.exprs.length:Nat):Int)-1⟩]:=by rw[Ir,h,←Fq s.exprs];rfl
theorem aEa(h:s.kind=8):Sa c s.pure n top=⟨32,0,((n+1+(if(Ai s.els).isEmpty then 0 else 1):Nat):Int),0⟩::ovr (n+1) (cB c (Ai s.els) (n+2)) (Ai s.els).isEmpty:=by rw[Ir,h];rfl
theorem aEb(h:s.kind=9):Sa c s.pure n top=⟨33,c.vs s.name,((n+1+(if(Ai s.els).isEmpty then 0 else 1):Nat):Int),0⟩::ovr (n+1) (cB c (Ai s.els) (n+2)) (Ai s.els).isEmpty:=by rw[Ir,h];rfl
theorem VO(h:s.kind=10):Sa c s.pure n top=[⟨34,0,0,0⟩]:=by rw[Ir,h];rfl
theorem aKt(h:¬s.kind=1∧¬s.kind=2∧¬s.kind=3∧¬s.kind=4∧¬s.kind=5∧¬s.kind=6∧¬s.kind=7∧¬s.kind=8∧¬s.kind=9∧¬s.kind=10):Sa c s.pure n top=[]:=by
 obtain⟨h1,h2,h3,h4,h5,h6,h7,h8,h9,h10⟩:=h;rw[Ir];unfold Sa;simp only[aNy h1,aNy h2,aNy h3,aNy h4,aNy h5,aNy h6,aNy h7,aNy h8,aNy h9,aNy h10]
end
section
variable{α:Type}(X Y Z V:List α)(a b j k:α)
theorem zN:(((X++[a])++Y)++Z)[X.length]?=some a:=by rw[aOt (X++[a])];exact zL ..
theorem zO:(((X++[a])++Y)++Z).set X.length b=((X++[b])++Y)++Z:=by rw[aOt (X++[a]),nU,←aOt]
end
section
variable{cc:Cc}{t e:List PS}{X Y1 W1 Z1 WF:List Ins}
theorem Xx(X:List Ins)(y:Ins):(X++[y]).length=X.length+1:=by rw[aj];rfl
theorem at4{y:Ins}(hY1:Y1=(X++[y])++Z1):Y1[X.length]?=some y:=by rw[hY1];exact zL ..
theorem aKu{y j:Ins}(hY1:Y1=(X++[y])++Z1):(Y1++[j])[X.length]?=some y:=by rw[hY1];exact zN ..
theorem aNb{y j:Ins}(hY1:Y1=(X++[y])++cB cc t (X++[y]).length)(hWF:WF=(Y1++[j]).set X.length ⟨28,(((Y1++[j]).length:Nat):Int),0,0⟩):
    WF=X++(⟨28,((X.length+1+(cB cc t (X.length+1)).length+1:Nat):Int),0,0⟩::(cB cc t (X.length+1)++[j])):=by
 rw[Xx]at hY1;have hyl:Y1.length=X.length+1+(cB cc t (X.length+1)).length:=by rw[hY1,aj,Xx]
 rw[hWF,Xx,hyl,hY1,zO];simp
end
theorem VP(p:Nat)(e:List Ins){b:Bool}(h:b=false):(ovr p e b).length=e.length+1:=by rw[h];rfl
theorem Xy(l:List St):(Ai l).isEmpty=decide (l.length=0):=by cases l<;>rfl
theorem aHe(c:Cc)(s:PS)(top:Nat):1≤(cS c s top).length:=by rw[vP,aQp,ag];exact Nat.le_add_left _ _
theorem VQ(c:Cc):∀(l:List St) (top:Nat),l.length≤(cB c (Ai l) top).length
 |[],_=>aOd _
 | x::r,top=>by
   have h1:=aHe c x.pure top;have h2:=VQ c r (top+(cS c x.pure top).length);show r.length+1≤(cS c x.pure top++cB c (Ai r) _).length;rw[aj];omega
theorem aHf(c:Cc)(s:PS)(top:Nat):cB c [s] top=cS c s top:=aOo _
theorem JX(c:Cc){l:List St}{j:Nat}{x:St}(top:Nat)(h:l[j]?=some x):cB c (Ai (l.take (j+1))) top=cB c (Ai (l.take j)) top++cS c x.pure (top+(cB c (Ai (l.take j)) top).length):=by
 rw[Cj h,Dg,aOb,EA,←Dg];congr 1;exact aHf ..
theorem aKv(c:Cc){l:List St}{j:Nat}{x:St}(top:Nat)(h:l[j]?=some x):(cB c (Ai (l.take j)) top).length+(cS c x.pure (top+(cB c (Ai (l.take j)) top).length)).length≤(cB c (Ai l) top).length:=by
 have e2:cB c (Ai l) top=cB c (Ai (l.take (j+1))) top++cB c (Ai (l.drop (j+1))) (top+(cB c (Ai (l.take (j+1))) top).length):=by
  conv=>lhs;rw[←aPn (j+1) l,Dg,aOb,EA]
  rw[Dg,Dg]
 rw[e2,JX c top h,aj,aj];omega
theorem Yw{F:Fl}{ci:Nat}{c:Cm}(hc:F.comps[ci]?=some c):F.pure.comps[ci]?=some c.pure:=by
 show(F.comps.map Cm.pure)[ci]?=_;rw[aOf,hc];rfl
abbrev Nh(F:Fl)(c:Cm)(x:Hd):List Ins:=cB (ccR F.pure c.name c.vars x.ps) (Ai x.body) 0
structure VR(F:Fl)(c:Cm)(x:Hd):Prop where
 ps:x.ps.length≤2
 len:(Nh F c x).length≤3816
 form:∀i∈Nh F c x,Nl ((x.ps.length:Nat):Int) (Nh F c x).length i=true
theorem OU{F:Fl}(h:Nn F.pure){ci:Nat}{c:Cm}(hc:F.comps[ci]?=some c){v:Vs}(hv:v∈c.vers){x:Hd}(hx:x∈v.l):VR F c x:=by
 obtain⟨ct,ar,ok⟩:=h.okC (Yw hc);have hgv:=ok.vers v.pure (aOm.2 ⟨v,hv,rfl⟩);obtain⟨k,hk⟩:=aPr hx;have gh:=hgv.2.2 k x.pure (by show(v.l.map Hd.pure)[k]?=_;rw[aOf,hk];rfl);obtain⟨np,hnp,hps,hst⟩:=gh.ps;have hnp2:np≤2:=(ok.ok.each ar (sN ok.arr)).2.2 np (sN hnp);have hps:x.ps=nms 112 np:=hps;have hst:∀s∈Ai x.body,StE ct np 3 s:=hst;have hcn:Be (Ai x.body)≤12:=gh.cnt;have his:(ccR F.pure c.name c.vars (nms 112 np)).Is ct np:=ok.isR hnp2;have hwf:∀s∈Ai x.body,WfS s:=fun s hs=>(hst s hs).wf ok.ok;have hpl:x.ps.length=np:=by rw[hps,Dq]
 have hlen:(Nh F c x).length≤318*Be (Ai x.body):=aB _ _ fun s hs=>aFx (hwf s hs);have fe:=NB ok.ok (np:=np) (n:=(Nh F c x).length) om;refine⟨by omega,by omega,?_⟩;rw[hpl];have e1:Nh F c x=cB (ccR F.pure c.name c.vars (nms 112 np)) (Ai x.body) 0:=by show cB (ccR F.pure c.name c.vars x.ps) _ _=_;rw[hps]
 have:=aC (Q:=fun i=>Nl ((np:Nat):Int) (Nh F c x).length i=true) (n:=(Nh F c x).length) (Ai x.body) 0 (cc:=ccR F.pure c.name c.vars (nms 112 np)) (fun s hs p hp=>(hst s hs).all ok.ok fe.1 fe.2 his p hp) (by rw[←e1];omega);rw[←e1]at this;exact this
structure RU where
 ok:Bool
 np:Nat
 st:Int
 l:List Ins
/-- An instruction whose operation is any int. -/
structure Iz where
 o:Int
 a:Int
 b:Int
 n:Int
def eIz(e:Iz):List vU:=[iv e.o,iv e.a,iv e.b,iv e.n]
instance eIk:Enc eIz 4:=⟨fun _=>rfl,fun e u hu=>by
 simp only[eIz,aNx,aOe,aPh]at hu;rcases hu with rfl|rfl|rfl|rfl<;>rfl⟩
end Go.Proofs.YtihgdnjkofpgiaaGreatDoor

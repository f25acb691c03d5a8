/- Own text. -/
import Derived.Test.YtihgdnjkofpgiaaGreatDoorAa
import Derived.Test.YtihgdnjkofpgiaaGreatDoorCa
import Derived.Laws.BytesString
set_option linter.unusedVariables false
set_option linter.unusedSimpArgs false
namespace Go.Proofs.YtihgdnjkofpgiaaGreatDoor
open Go.RowKit Go.Flow Go.Mem Go.Sep
structure Ex where
 op:Nat
 name:yB
 n:Int
 A:OA
 q:Nat
 args:List Ex
structure St where
 kind:Nat
 name:yB
 hand:yB
 A:OA
 q:Nat
 exprs:List Ex
 At:OA
 qt:Nat
 thn:List St
 Ae:OA
 qe:Nat
 els:List St
def Dh(e:Ex):List vU:=[nv e.op, .string e.name,iv e.n, .slice e.A e.args.length e.q]
def Be(e:Ex):List vU:=[ub e.op, .string e.name,iv e.n, .slice e.A e.args.length e.q]
def Mc(s:St):List vU:=[nv s.kind, .string s.name, .string s.hand, .slice s.A s.exprs.length s.q, .slice s.At s.thn.length s.qt, .slice s.Ae s.els.length s.qe]
def Ca(s:St):List vU:=[ub s.kind, .string s.name, .string s.hand, .slice s.A s.exprs.length s.q, .slice s.At s.thn.length s.qt, .slice s.Ae s.els.length s.qe]
instance Vw:Enc Dh 4:=⟨fun _=>rfl,fun e u hu=>by
 simp only[Dh,aPi,aPm,aQo]at hu;rcases hu with rfl|rfl|rfl|rfl<;>rfl⟩
instance Gw:Enc Be 4:=⟨fun _=>rfl,fun e u hu=>by
 simp only[Be,aPi,aPm,aQo]at hu;rcases hu with rfl|rfl|rfl|rfl<;>rfl⟩
instance aBc:Enc Mc 6:=⟨fun _=>rfl,fun e u hu=>by
 simp only[Mc,aPi,aPm,aQo]at hu;rcases hu with rfl|rfl|rfl|rfl|rfl|rfl<;>rfl⟩
instance Ia:Enc Ca 6:=⟨fun _=>rfl,fun e u hu=>by
 simp only[Ca,aPi,aPm,aQo]at hu;rcases hu with rfl|rfl|rfl|rfl|rfl|rfl<;>rfl⟩
mutual
def Ex.kids(f:Ex→List vU):Ex→List Ad
 |⟨_,_,_,A,_,l⟩=>ros f A l::Eh f l
def Eh(f:Ex→List vU):List Ex→List Ad
 |[]=>[]
 |e::r=>Ex.kids f e++Eh f r
end
mutual
def St.kids(f:Ex→List vU)(g:St→List vU):St→List Ad
 |⟨_,_,_,A,_,l,At,_,t,Ae,_,e⟩=>(ros f A l::Eh f l)++((ros g At t::Ep f g t)++(ros g Ae e::Ep f g e))
def Ep(f:Ex→List vU)(g:St→List vU):List St→List Ad
 |[]=>[]
 |e::r=>St.kids f g e++Ep f g r
end
structure PE where
 op:Nat
 name:yB
 n:Int
 args:List PE
structure PS where
 kind:Nat
 name:yB
 hand:yB
 exprs:List PE
 thn:List PS
 els:List PS
mutual
def Ex.pure:Ex→PE
 |⟨o,s,n,_,_,l⟩=>⟨o,s,n,Cv l⟩
def Cv:List Ex→List PE
 |[]=>[]
 |e::r=>Ex.pure e::Cv r
end
mutual
def St.pure:St→PS
 |⟨k,s,h,_,_,l,_,_,t,_,_,e⟩=>⟨k,s,h,Cv l,Am t,Am e⟩
def Am:List St→List PS
 |[]=>[]
 |e::r=>St.pure e::Am r
end
theorem Le(f:Ex→List vU)(e:Ex):e.kids f=ros f e.A e.args::Eh f e.args:=by cases e;rfl
theorem Qc(f:Ex→List vU)(g:St→List vU)(e:St):e.kids f g=(ros f e.A e.exprs::Eh f e.exprs)++((ros g e.At e.thn::Ep f g e.thn)++(ros g e.Ae e.els::Ep f g e.els)):=by cases e;rfl
theorem Et(e:Ex):e.pure=⟨e.op,e.name,e.n,Cv e.args⟩:=by cases e;rfl
theorem Ju(e:St):e.pure=⟨e.kind,e.name,e.hand,Cv e.exprs,Am e.thn,Am e.els⟩:=by cases e;rfl
theorem Bj(l:List Ex):Cv l=l.map Ex.pure:=by
 induction l with
 |nil=>rfl
 |cons a r ih=>rw[Cv,ih];rfl
theorem Ei(l:List St):Am l=l.map St.pure:=by
 induction l with
 |nil=>rfl
 |cons a r ih=>rw[Am,ih];rfl
theorem Kt(f:Ex→List vU)(l:List Ex):Eh f l=l.flatMap (Ex.kids f):=by
 induction l with
 |nil=>rfl
 |cons a r ih=>rw[Eh,ih];rfl
theorem Md(f:Ex→List vU)(g:St→List vU)(l:List St):Ep f g l=l.flatMap (St.kids f g):=by
 induction l with
 |nil=>rfl
 |cons a r ih=>rw[Ep,ih];rfl
def Lax(cs:List Ad):Prop:=∀c∈cs,c.owns=[]
theorem Lax.owns{cs:List Ad}(h:Lax cs):owns cs=[]:=by
 induction cs with
 |nil=>rfl
 | cons c r ih=>
   show c.owns++Sep.owns r=[];rw[h c (aPc ..),ih fun x hx=>h x (aPb _ hx)];rfl
theorem gy{c:Ad}{cs:List Ad}(h1:c.owns=[])(h:Lax cs):Lax (c::cs):=fun x hx=>by
 rcases aPi.1 hx with rfl|hx
 ·exact h1
 ·exact h x hx
theorem Lax.app{cs ds:List Ad}(h1:Lax cs)(h2:Lax ds):Lax (cs++ds):=fun x hx=>(aQp.1 hx).elim (h1 x) (h2 x)
theorem Lax.nil:Lax []:=fun _ h=>by cases h
theorem Gt{α:Type}{k:α→List Ad}{l:List α}(h:∀x∈l,Lax (k x)):Lax (l.flatMap k):=fun c hc=>by
 obtain⟨x,hx,hc⟩:=aQe.1 hc;exact h x hx c hc
mutual
theorem Ex.lax(f:Ex→List vU):∀e:Ex,Lax (e.kids f)
 |⟨_,_,_,_,_,l⟩=>gy rfl (jV f l)
theorem jV(f:Ex→List vU):∀l:List Ex,Lax (Eh f l)
 |[]=>Lax.nil
 |e::r=>Lax.app (Ex.lax f e) (jV f r)
end
mutual
theorem St.lax(f:Ex→List vU)(g:St→List vU):∀e:St,Lax (e.kids f g)
 |⟨_,_,_,_,_,l,_,_,t,_,_,e⟩=>Lax.app (gy rfl (jV f l)) (Lax.app (gy rfl (dP f g t)) (gy rfl (dP f g e)))
theorem dP(f:Ex→List vU)(g:St→List vU):∀l:List St,Lax (Ep f g l)
 |[]=>Lax.nil
 |e::r=>Lax.app (St.lax f g e) (dP f g r)
end
section
variable{C:Cx}{ρ:Bo}{Γ:List Ad}{K:Act→wD→Prop}{cs ds:List Ad}{c:Ad}
theorem Cg(i:Nat)(hi:Γ[i]?=some (all cs))(ds:List Ad)(hl:Lax ds)(h:∀c∈ds,c∈cs)(k:To C ρ (all ds::Γ) K):To C ρ Γ K:=
 Zc (all ds) hl.owns (fun g hg=>by
  obtain⟨c,hc,hgc⟩:=dw.1 (show g∈reads ds from hg);exact Uj i hi (show g∈reads cs from dw.2 ⟨c,h c hc,hgc⟩))
  (fun w hw=>Gp hl.owns fun c hc=>IU i hi (h c hc) w hw) k
theorem bz(i:Nat)(hi:Γ[i]?=some (all cs))(c:Ad)(ho:c.owns=[])(h:c∈cs)(k:To C ρ (c::Γ) K):To C ρ Γ K:=
 Zc c ho (fun g hg=>Uj i hi (show g∈reads cs from dw.2 ⟨c,h,hg⟩)) (IU i hi h) k
theorem Cz(k:To C ρ (all (c::cs)::Γ) K):To C ρ (c::all cs::Γ) K:=
 cz (aQn _ _ _) (DN (cz (Γ':=(c::cs)++Γ) aPv (DR k)))
theorem Ku(k:To C ρ (all (cs++ds)::Γ) K):To C ρ (all cs::all ds::Γ) K:=by
 refine DN (cz (Γ':=all ds::(cs++Γ)) aPv (DN (cz (Γ':=(cs++ds)++Γ) ?_ (DR k))));rw[←aQi];exact aQc.append_right Γ
theorem dQ(k:To C ρ (all [c]::Γ) K):To C ρ (c::Γ) K:=DR (cs:=[c]) k
end
def Dc(s:yB):List vU:=[.string s]
instance Di:Enc Dc 1:=⟨fun _=>rfl,fun x u hu=>by simp[Dc]at hu;subst hu;rfl⟩
open Go.RowKit Go.Flow Go.Mem Go.Sep Go.In
def nm(c k:Nat):yB:=fT [c,48+k]
def nms(c n:Nat):List yB:=(List.range n).map (nm c)
def nB0:yB:=fT [98,48]
def nT0:yB:=fT [116,48]
def nC(k:Nat):yB:=fT [97+k]
abbrev nE:yB:=bE
theorem Dn(c n:Nat):(nms c n).length=n:=by unfold nms;rw[aPg,List.length_range]
theorem Ed{c n k:Nat}(h:k<n):(nms c n)[k]?=some (nm c k):=by
 unfold nms;rw[aPs,List.getElem?_range h];rfl
theorem nH(c n:Nat):nms c (n+1)=nms c n++[nm c n]:=by unfold nms;rw[List.range_succ,aPn];rfl
structure Ct where
 ints:Nat
 tables:Nat
 flags:Nat
 own:Nat
 ars:List (List Nat)
structure Ct.Ok(c:Ct):Prop where
 ints:1≤c.ints∧c.ints≤3
 tables:c.tables≤1
 flags:c.flags≤2
 own:c.own<c.ars.length
 some:c.ars.length≤3
 each:∀l∈c.ars,1≤l.length∧l.length≤3∧∀x∈l,x≤2
inductive Kv(c:Ct)(np:Nat):Nat→PE→Prop
 |num (d n:Nat) (h:n<9):Kv c np d ⟨1,nE,n,[]⟩
 |var (d k:Nat) (h:k<c.ints):Kv c np d ⟨5,nm 120 k,0,[]⟩
 |par (d k:Nat) (h:k<np):Kv c np d ⟨5,nm 112 k,0,[]⟩
 |now (d:Nat):Kv c np d ⟨4,nE,0,[]⟩
 |get (d:Nat) (e:PE) (ht:0<c.tables) (h:Kv c np d e):Kv c np (d+1) ⟨6,nT0,0,[e]⟩
 |size (d:Nat) (ht:0<c.tables):Kv c np d ⟨8,nT0,0,[]⟩
 |neg (d:Nat) (e:PE) (h:Kv c np d e):Kv c np (d+1) ⟨9,nE,0,[e]⟩
 |bin (d op:Nat) (a b:PE) (ho:11≤op∧op≤15) (ha:Kv c np d a) (hb:Kv c np d b):Kv c np (d+1) ⟨op,nE,0,[a,b]⟩
inductive Pn(c:Ct)(np:Nat):Nat→PE→Prop
 |tf (d op:Nat) (h:op=2∨op=3):Pn c np d ⟨op,nE,0,[]⟩
 |b0 (d:Nat):Pn c np d ⟨5,nB0,0,[]⟩
 |flag (d k:Nat) (h:k<c.flags):Pn c np d ⟨5,nm 102 k,0,[]⟩
 |has (d:Nat) (e:PE) (ht:0<c.tables) (h:Kv c np 2 e):Pn c np d ⟨7,nT0,0,[e]⟩
 |not (d:Nat) (e:PE) (h:Pn c np d e):Pn c np (d+1) ⟨10,nE,0,[e]⟩
 |two (d op:Nat) (a b:PE) (ho:op=22∨op=23) (ha:Pn c np d a) (hb:Pn c np d b):Pn c np (d+1) ⟨op,nE,0,[a,b]⟩
 |cmp (d op:Nat) (a b:PE) (ho:16≤op∧op≤21) (ha:Kv c np 2 a) (hb:Kv c np 2 b):Pn c np d ⟨op,nE,0,[a,b]⟩
inductive StE(c:Ct)(np:Nat):Nat→PS→Prop
 |setB (d:Nat) (e:PE) (h:Pn c np 2 e):StE c np d ⟨1,nB0,nE,[e],[],[]⟩
 |setX (d k:Nat) (e:PE) (hk:k<c.ints) (h:Kv c np 3 e):StE c np d ⟨1,nm 120 k,nE,[e],[],[]⟩
 |put (d:Nat) (a b:PE) (ht:0<c.tables) (ha:Kv c np 3 a) (hb:Kv c np 3 b):StE c np d ⟨2,nT0,nE,[a,b],[],[]⟩
 |del (d:Nat) (a:PE) (ht:0<c.tables) (ha:Kv c np 3 a):StE c np d ⟨3,nT0,nE,[a],[],[]⟩
 |ife (d:Nat) (e:PE) (t l:List PS) (h:Pn c np 2 e) (ht:∀s∈t,StE c np d s) (hl:∀s∈l,StE c np d s):StE c np (d+1) ⟨4,nE,nE,[e],t,l⟩
 |whl (d:Nat) (e:PE) (t:List PS) (h:Pn c np 2 e) (ht:∀s∈t,StE c np d s):StE c np (d+1) ⟨5,nE,nE,[e],t,[]⟩
 |send (d to h:Nat) (ar:List Nat) (l:List PE) (ha:c.ars[to]?=some ar) (hh:ar[h]?=some l.length) (hl:∀e∈l,Kv c np 2 e):StE c np d ⟨6,nC to,nm 104 h,l,[],[]⟩
 |after (d h:Nat) (ar:List Nat) (e:PE) (l:List PE) (ha:c.ars[c.own]?=some ar) (hh:ar[h]?=some l.length) (he:Kv c np 2 e) (hl:∀e∈l,Kv c np 2 e):StE c np d ⟨7,nE,nm 104 h,e::l,[],[]⟩
 |store (d:Nat) (a b:PE) (l:List PS) (ha:Kv c np 2 a) (hb:Kv c np 2 b) (hl:∀s∈l,StE c np d s):StE c np (d+1) ⟨8,nE,nE,[a,b],[],l⟩
 |fetch (d k:Nat) (e:PE) (l:List PS) (hk:k<c.ints) (h:Kv c np 3 e) (hl:∀s∈l,StE c np d s):StE c np (d+1) ⟨9,nm 120 k,nE,[e],[],l⟩
 |stop (d:Nat):StE c np d ⟨10,nE,nE,[],[],[]⟩
mutual
def PS.cnt:PS→Nat
 |⟨_,_,_,_,t,e⟩=>1+Bl t+Bl e
def Bl:List PS→Nat
 |[]=>0
 |s::r=>PS.cnt s+Bl r
end
theorem Nc(l m:List PS):Bl (l++m)=Bl l+Bl m:=by
 induction l with
 |nil=>show _=0+_;rw[aQl];rfl
 |cons a r ih=>show PS.cnt a+Bl (r++m)=PS.cnt a+Bl r+_;rw[ih];omega
structure Hd where
 name:yB
 Ap:OA
 qp:Nat
 ps:List yB
 Ab:OA
 qb:Nat
 body:List St
structure Vs where
 A:OA
 q:Nat
 l:List Hd
structure Vr where
 name:yB
 ty:Nat
 init:Int
structure Cm where
 name:yB
 Av:OA
 qv:Nat
 vars:List Vr
 An:OA
 qn:Nat
 vers:List Vs
abbrev cX(x:Cm)(r:List vU):List vU:= .string x.name::vs x.Av x.vars x.qv::vs x.An x.vers x.qn::r
structure Fg where
 name:yB
 init:Bool
structure Lk where
 src:yB
 dst:yB
 lat:Int
structure Fl where
 name:yB
 Af:OA
 qf:Nat
 flags:List Fg
 Al:OA
 ql:Nat
 links:List Lk
 Ac:OA
 qc:Nat
 comps:List Cm
abbrev cF(F:Fl)(r:List vU):List vU:= .string F.name::vs F.Af F.flags F.qf::vs F.Al F.links F.ql::vs F.Ac F.comps F.qc::r
def Ii(e:Hd):List vU:=[.string e.name, .slice e.Ap e.ps.length e.qp, .slice e.Ab e.body.length e.qb]
def Fq(e:Vs):List vU:=[.slice e.A e.l.length e.q]
def Pw(e:Vr):List vU:=[.string e.name,nv e.ty,iv e.init]
def Hg(e:Vr):List vU:=[.string e.name,ub e.ty,iv e.init]
def Gm(e:Cm):List vU:=[.string e.name, .slice e.Av e.vars.length e.qv, .slice e.An e.vers.length e.qn]
def Gh(e:Fg):List vU:=[.string e.name, .bool e.init]
def Jv(e:Lk):List vU:=[.string e.src, .string e.dst,iv e.lat]
def Fl.cells(e:Fl):List vU:=[.string e.name, .slice e.Af e.flags.length e.qf, .slice e.Al e.links.length e.ql, .slice e.Ac e.comps.length e.qc]
instance Zi:Enc Ii 3:=⟨fun _=>rfl,fun e u hu=>by
 simp only[Ii,aPi,aPm,aQo]at hu;rcases hu with rfl|rfl|rfl<;>rfl⟩
instance Sk:Enc Fq 1:=⟨fun _=>rfl,fun e u hu=>by
 simp only[Fq,aPi,aPm,aQo]at hu;subst hu;rfl⟩
instance nI:Enc Pw 3:=⟨fun _=>rfl,fun e u hu=>by
 simp only[Pw,aPi,aPm,aQo]at hu;rcases hu with rfl|rfl|rfl<;>rfl⟩
instance zF:Enc Hg 3:=⟨fun _=>rfl,fun e u hu=>by
 simp only[Hg,aPi,aPm,aQo]at hu;rcases hu with rfl|rfl|rfl<;>rfl⟩
instance jW:Enc Gm 3:=⟨fun _=>rfl,fun e u hu=>by
 simp only[Gm,aPi,aPm,aQo]at hu;rcases hu with rfl|rfl|rfl<;>rfl⟩
instance nJ:Enc Gh 2:=⟨fun _=>rfl,fun e u hu=>by
 simp only[Gh,aPi,aPm,aQo]at hu;rcases hu with rfl|rfl<;>rfl⟩
instance nK:Enc Jv 3:=⟨fun _=>rfl,fun e u hu=>by
 simp only[Jv,aPi,aPm,aQo]at hu;rcases hu with rfl|rfl|rfl<;>rfl⟩
structure Yj where
 f:Ex→List vU
 g:St→List vU
 v:Vr→List vU
def eR:Yj:=⟨Dh,Mc,Pw⟩
def eX:Yj:=⟨Be,Ca,Hg⟩
def Hd.kids(k:Yj)(h:Hd):List Ad:=ros Dc h.Ap h.ps::ros k.g h.Ab h.body::Ep k.f k.g h.body
def Vs.kids(k:Yj)(v:Vs):List Ad:=ros Ii v.A v.l::v.l.flatMap (Hd.kids k)
def Cm.kids(k:Yj)(c:Cm):List Ad:=ros k.v c.Av c.vars::ros Fq c.An c.vers::c.vers.flatMap (Vs.kids k)
def Fl.kids(k:Yj)(f:Fl):List Ad:=ros Gh f.Af f.flags::ros Jv f.Al f.links::ros Gm f.Ac f.comps::f.comps.flatMap (Cm.kids k)
theorem Hd.lax(k:Yj)(h:Hd):Lax (h.kids k):=gy rfl (gy rfl (dP k.f k.g h.body))
theorem Vs.lax(k:Yj)(v:Vs):Lax (v.kids k):=gy rfl (Gt fun h _=>h.lax k)
theorem Cm.lax(k:Yj)(v:Cm):Lax (v.kids k):=gy rfl (gy rfl (Gt fun h _=>h.lax k))
theorem Fl.lax(k:Yj)(v:Fl):Lax (v.kids k):=gy rfl (gy rfl (gy rfl (Gt fun h _=>h.lax k)))
structure PH where
 name:yB
 ps:List yB
 body:List PS
structure PC where
 name:yB
 vars:List Vr
 vers:List (List PH)
structure PF where
 name:yB
 flags:List Fg
 links:List Lk
 comps:List PC
def Hd.pure(h:Hd):PH:=⟨h.name,h.ps,Am h.body⟩
def Vs.pure(v:Vs):List PH:=v.l.map Hd.pure
def Cm.pure(c:Cm):PC:=⟨c.name,c.vars,c.vers.map Vs.pure⟩
def Fl.pure(f:Fl):PF:=⟨f.name,f.flags,f.links,f.comps.map Cm.pure⟩
structure aG(c:Ct)(ar:List Nat)(k:Nat)(h:PH):Prop where
 name:h.name=nm 104 k
 ps:∃np,ar[k]?=some np∧h.ps=nms 112 np∧∀s∈h.body,StE c np 3 s
 cnt:Bl h.body≤12
def rR(c:Ct)(ar:List Nat)(l:List PH):Prop:=1≤l.length∧l.length≤ar.length∧∀k h,l[k]?=some h→aG c ar k h
def varsOf(ints tables:Nat):List Vr:=(List.range ints).map (fun k=>⟨nm 120 k,1,(k:Int)⟩)++[⟨nB0,2,0⟩]++(List.range tables).map (fun _=>⟨nT0,3,0⟩)
structure Wx(flags:Nat)(ars:List (List Nat))(i:Nat)(c:PC):Prop where
 name:c.name=nC i
 vers:∃ints tables ar,(1≤ints∧ints≤3)∧tables≤1∧ars[i]?=some ar∧c.vars=varsOf ints tables∧(∀v∈c.vers,rR ⟨ints,tables,flags,i,ars⟩ ar v)∧(1≤c.vers.length∧c.vers.length≤2)∧∃v∈c.vers,v.length=ar.length
def zG(ars:List (List Nat)):Prop:=(1≤ars.length∧ars.length≤3)∧∀l∈ars,1≤l.length∧l.length≤3∧∀x∈l,x≤2
structure Ji(f:PF):Prop where
 name:f.name=fT [102,108,101,101,116,49]
 flags:f.flags.length≤2∧f.flags.map Fg.name=nms 102 f.flags.length
 links:f.links.length≤9∧(∀x∈f.links,∃i j,i<f.comps.length∧j<f.comps.length∧x.src=nC i∧x.dst=nC j∧1≤x.lat∧x.lat≤3)∧(f.links.map fun x=>(x.src,x.dst)).Nodup
 comps:∃ars,zG ars∧f.comps.length=ars.length∧∀i c,f.comps[i]?=some c→Wx f.flags.length ars i c
structure Cc where
 pn:yB→Ins
 vs:yB→Int
 ts:yB→Int
 tg:yB→yB→Int×Int
 ah:yB→Int
def opI(c:Cc)(op:Nat)(s:yB)(n:Int):Ins:=
 if op=1 then⟨1,0,0,n⟩else if op=2 then⟨1,0,0,1⟩else if op=3 then⟨1,0,0,0⟩else if op=4 then⟨5,0,0,0⟩else if op=5 then c.pn s
 else if op=6∨op=7∨op=8 then⟨op,c.ts s,0,0⟩else⟨op,0,0,0⟩
mutual
def cE(c:Cc):PE→List Ins
 |⟨op,s,n,l⟩=>cEs c l++[opI c op s n]
def cEs(c:Cc):List PE→List Ins
 |[]=>[]
 |e::r=>cE c e++cEs c r
end
def ovr(p:Nat)(e:List Ins)(b:Bool):List Ins:=if b then []else⟨27,((p+1+e.length:Nat):Int),0,0⟩::e
mutual
def cS(c:Cc):PS→Nat→List Ins
 | ⟨k,s,h,es,t,e⟩,top=>
   let x:=(⟨29,0,0,0⟩:Ins)::cEs c es;let p:=top+x.length+1;let j:Nat:=if e.isEmpty then 0 else 1
   x++(if k=1 then [⟨24,c.vs s,0,0⟩]else if k=2 then [⟨25,c.ts s,0,0⟩]else if k=3 then [⟨26,c.ts s,0,0⟩]
    else if k=4 then⟨28,((p+(cB c t p).length+j:Nat):Int),0,0⟩::(cB c t p++ovr (p+(cB c t p).length) (cB c e (p+(cB c t p).length+1)) e.isEmpty)
    else if k=5 then⟨28,((p+(cB c t p).length+1:Nat):Int),0,0⟩::(cB c t p++[⟨27,((top:Nat):Int),0,0⟩])
    else if k=6 then [⟨30,(c.tg s h).1,(c.tg s h).2,((es.length:Nat):Int)⟩]
    else if k=7 then [⟨31,0,c.ah h,((es.length:Nat):Int)-1⟩]
    else if k=8 then⟨32,0,((p+j:Nat):Int),0⟩::ovr p (cB c e (p+1)) e.isEmpty
    else if k=9 then⟨33,c.vs s,((p+j:Nat):Int),0⟩::ovr p (cB c e (p+1)) e.isEmpty
    else if k=10 then [⟨34,0,0,0⟩]else [])
def cB(c:Cc):List PS→Nat→List Ins
 |[],_=>[]
 |s::r,top=>cS c s top++cB c r (top+(cS c s top).length)
end
theorem JV(c:Cc)(l m:List PE):cEs c (l++m)=cEs c l++cEs c m:=by
 induction l with
 |nil=>rfl
 |cons a r ih=>show cE c a++cEs c (r++m)=(cE c a++cEs c r)++_;rw[ih,aQi]
theorem FC(c:Cc):∀(l m:List PS) (top:Nat),cB c (l++m) top=cB c l top++cB c m (top+(cB c l top).length)
 |[],m,top=>by show cB c m top=[]++cB c m (top+0);rfl
 | s::r,m,top=>by
   show cS c s top++cB c (r++m) _=(cS c s top++cB c r _)++cB c m (top+(cS c s top++cB c r _).length);rw[FC c r m,aQi,bu,Nat.add_assoc]
open Go.RowKit Go.Flow Go.Mem Go.Sep
def strOf(l:List Nat):yB:=(l.map fun n:Nat=>(n:Int)).foldl (fun r n=>r.push (UInt8.ofNat n.toNat)) bE
theorem UI(l:List Nat):l.flatMap Fp=(l.map fun n:Nat=>(n:Int)).map (Value.int .u8):=by
 induction l with
 |nil=>rfl
 |cons a r ih=>rw[aQq,ih];rfl
theorem zI{P:pG}{o:Oper}{ρ:Bo}{Γ:List Ad}{x:Operand}{src dst e:tI}{A:OA}{l:List Nat}{cap:Nat}(ho:o.op= .convert src dst x)(hs:P.underlying src=some (.slice e))(he:P.underlying e=some (.int .u8))(hd:P.underlying dst=some .string)
    (hx:ev ρ x=some (.slice A l.length cap)) (hr:∀w,oks Γ w→(ros Fp A l).holds w):Rd P o ρ Γ (.string (strOf l)):=fun a w ha hw=>by
 have hq:Src w A (l.flatMap Fp):=hr w hw;have hc:=run_convert_bytes_string (P:=P) w src dst e A l.length cap hs he hd;have hb:(Conv.bytesToString (.slice A l.length cap)).run P w= .ok (.string (strOf l)) w:=by
  cases A with
  | none=>
    have hl:l=[]:=by
     rcases hq with h|⟨g,off,h,_⟩
     · cases l with
       |nil=>rfl
       |cons z r=>exact aPu (aPe List.length h) (by simp[Fp])
     ·cases h
    subst hl;simp[Conv.bytesToString,strOf,aQv]
  | some ad=>
    refine run_bytesToString w ad l.length cap (l.map fun n:Nat=>(n:Int)) ?_;have hcell:∀j v,(l.flatMap Fp)[j]?=some v→w.cell? (ad.add j)=some v:=by
     intro j v hv;rcases hq with h|⟨g,off,h,h2⟩
     ·rw[h]at hv;cases hv
     · injection h with h;subst h
       rw[Addr.add_mid];exact h2 j v hv
    have h3:=run_loadCells_list (P:=P) (w:=w) ad (l.flatMap Fp) hcell;rw[UI,aPg,aPg]at h3;exact h3
 unfold execOp;simp[ho,ha.eval hx,hc,hb]
open Go.RowKit Go.Flow Go.Mem Go.Sep Go.In
structure Cd where
 params:Nat
 B:OA
 q:Nat
 bl:List Nat
structure Pt where
 ints:Nat
 tables:Nat
 Ah:OA
 qh:Nat
 hs:List Cd
 As:OA
 qs:Nat
 sec:List Cd
structure Pl where
 flags:Nat
 Al:OA
 ql:Nat
 links:List Nat
 Ac:OA
 qc:Nat
 comps:List Pt
abbrev cL(p:Pl)(r:List vU):List vU:=ub p.flags::vs p.Al p.links p.ql::vs p.Ac p.comps p.qc::r
def Ng(c:Cd):List vU:=[ub c.params, .slice c.B c.bl.length c.q]
def Tn(c:Pt):List vU:=[ub c.ints,ub c.tables, .slice c.Ah c.hs.length c.qh, .slice c.As c.sec.length c.qs]
def Pl.cells(c:Pl):List vU:=[ub c.flags, .slice c.Al c.links.length c.ql, .slice c.Ac c.comps.length c.qc]
instance aLl:Enc Ng 2:=⟨fun _=>rfl,fun e u hu=>by
 simp only[Ng,aPi,aPm,aQo]at hu;rcases hu with rfl|rfl<;>rfl⟩
instance aLm:Enc Tn 4:=⟨fun _=>rfl,fun e u hu=>by
 simp only[Tn,aPi,aPm,aQo]at hu;rcases hu with rfl|rfl|rfl|rfl<;>rfl⟩
def Cd.kids(c:Cd):List Ad:=[ros Fp c.B c.bl]
def Pt.kids(c:Pt):List Ad:=ros Ng c.Ah c.hs::ros Ng c.As c.sec::(c.hs++c.sec).flatMap Cd.kids
def Pl.kids(c:Pl):List Ad:=ros Fp c.Al c.links::ros Tn c.Ac c.comps::c.comps.flatMap Pt.kids
theorem Cd.lax(c:Cd):Lax c.kids:=gy rfl Lax.nil
theorem Pt.lax(c:Pt):Lax c.kids:=gy rfl (gy rfl (Gt fun h _=>h.lax))
theorem Pl.lax(c:Pl):Lax c.kids:=gy rfl (gy rfl (Gt fun h _=>h.lax))
def okB(l:List Nat)(q:Nat):Prop:=(∀x∈l,x<256)∧l.length≤q
theorem okB.drop{l:List Nat}{q:Nat}(h:okB l q)(n:Nat):okB (l.drop n) (q-n):=⟨fun x hx=>h.1 x (List.mem_of_mem_drop hx),by rw[aRi];have:=h.2;omega⟩
theorem okB.take{l:List Nat}{q:Nat}(h:okB l q)(n:Nat):okB (l.take n) q:=⟨fun x hx=>h.1 x (aRc hx),by rw[aPo];have:=h.2;omega⟩
def Cd.Ok(c:Cd):Prop:=c.params<256∧okB c.bl c.q
structure Pt.Ok(c:Pt):Prop where
 ints:c.ints<256
 tables:c.tables<256
 hs:c.hs.length≤c.qh
 sec:c.sec.length≤c.qs
 hk:∀x∈c.hs,x.Ok
 sk:∀x∈c.sec,x.Ok
structure Pl.Ok(c:Pl):Prop where
 flags:c.flags<256
 links:okB c.links c.ql
 comps:c.comps.length≤c.qc
 ck:∀x∈c.comps,x.Ok
structure Ar where
 A:OA
 q:Nat
 l:List Nat
def gI(n:Nat):List vU:=[nv n]
instance jY:Enc gI 1:=⟨fun _=>rfl,fun x u hu=>by simp[gI]at hu;subst hu;rfl⟩
def dR(c:Ar):List vU:=[.slice c.A c.l.length c.q]
instance UJ:Enc dR 1:=⟨fun _=>rfl,fun x u hu=>by simp[dR]at hu;subst hu;rfl⟩
def Ar.kids(a:Ar):List Ad:=[ros gI a.A a.l]
def arsK(A:OA)(l:List Ar):List Ad:=ros dR A l::l.flatMap Ar.kids
theorem nL{A:OA}{l:List Ar}{a:Ar}(h:a∈l):ros gI a.A a.l∈arsK A l:=aPb _ (aQe.2 ⟨a,h,aPc ..⟩)
def aGy(h s:List Nat):List Nat:=(List.range 3).filterMap fun k=>if k<h.length then h[k]?.map (·%3)else if k=0 then some 1 else if k<s.length then s[k]?.map (·%3)else none
end Go.Proofs.YtihgdnjkofpgiaaGreatDoor

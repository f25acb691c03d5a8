/- Own text. -/
import Derived.Test.YtihgdnjkofpgiaaGreatDoorAa
import Derived.Test.YtihgdnjkofpgiaaGreatDoorCa
import Derived.Laws.BytesString
set_option linter.unusedVariables false
set_option linter.unusedSimpArgs false
namespace Go.Proofs.YtihgdnjkofpgiaaGreatDoor
open Go.RowKit Go.Flow Go.Mem Go.Sep
structure Ex where
 op:Nat
 name:yB
 n:Int
 A:OA
 q:Nat
 args:List Ex
structure St where
 kind:Nat
 name:yB
 hand:yB
 A:OA
 q:Nat
 exprs:List Ex
 At:OA
 qt:Nat
 thn:List St
 Ae:OA
 qe:Nat
 els:List St
def Cy(e:Ex):List vU:=[nv e.op, .string e.name,iv e.n, .slice e.A e.args.length e.q]
def Bc(e:Ex):List vU:=[ub e.op, .string e.name,iv e.n, .slice e.A e.args.length e.q]
def Ht(s:St):List vU:=[nv s.kind, .string s.name, .string s.hand, .slice s.A s.exprs.length s.q, .slice s.At s.thn.length s.qt, .slice s.Ae s.els.length s.qe]
def Bl(s:St):List vU:=[ub s.kind, .string s.name, .string s.hand, .slice s.A s.exprs.length s.q, .slice s.At s.thn.length s.qt, .slice s.Ae s.els.length s.qe]
instance Vb:Enc Cy 4:=⟨fun _=>rfl,fun e u hu=>by
 simp only[Cy,aNx,aOe,aPh]at hu;rcases hu with rfl|rfl|rfl|rfl<;>rfl⟩
instance Gt:Enc Bc 4:=⟨fun _=>rfl,fun e u hu=>by
 simp only[Bc,aNx,aOe,aPh]at hu;rcases hu with rfl|rfl|rfl|rfl<;>rfl⟩
instance aAe:Enc Ht 6:=⟨fun _=>rfl,fun e u hu=>by
 simp only[Ht,aNx,aOe,aPh]at hu;rcases hu with rfl|rfl|rfl|rfl|rfl|rfl<;>rfl⟩
instance Ia:Enc Bl 6:=⟨fun _=>rfl,fun e u hu=>by
 simp only[Bl,aNx,aOe,aPh]at hu;rcases hu with rfl|rfl|rfl|rfl|rfl|rfl<;>rfl⟩
mutual
def Ex.kids(f:Ex→List vU):Ex→List Ad
 |⟨_,_,_,A,_,l⟩=>ros f A l::Ea f l
def Ea(f:Ex→List vU):List Ex→List Ad
 |[]=>[]
 |e::r=>Ex.kids f e++Ea f r
end
mutual
def St.kids(f:Ex→List vU)(g:St→List vU):St→List Ad
 |⟨_,_,_,A,_,l,At,_,t,Ae,_,e⟩=>(ros f A l::Ea f l)++((ros g At t::Eh f g t)++(ros g Ae e::Eh f g e))
def Eh(f:Ex→List vU)(g:St→List vU):List St→List Ad
 |[]=>[]
 |e::r=>St.kids f g e++Eh f g r
end
structure PE where
 op:Nat
 name:yB
 n:Int
 args:List PE
structure PS where
 kind:Nat
 name:yB
 hand:yB
 exprs:List PE
 thn:List PS
 els:List PS
mutual
def Ex.pure:Ex→PE
 |⟨o,s,n,_,_,l⟩=>⟨o,s,n,Cn l⟩
def Cn:List Ex→List PE
 |[]=>[]
 |e::r=>Ex.pure e::Cn r
end
mutual
def St.pure:St→PS
 |⟨k,s,h,_,_,l,_,_,t,_,_,e⟩=>⟨k,s,h,Cn l,Ai t,Ai e⟩
def Ai:List St→List PS
 |[]=>[]
 |e::r=>St.pure e::Ai r
end
theorem Ky(f:Ex→List vU)(e:Ex):e.kids f=ros f e.A e.args::Ea f e.args:=by cases e;rfl
theorem Pj(f:Ex→List vU)(g:St→List vU)(e:St):e.kids f g=(ros f e.A e.exprs::Ea f e.exprs)++((ros g e.At e.thn::Eh f g e.thn)++(ros g e.Ae e.els::Eh f g e.els)):=by cases e;rfl
theorem El(e:Ex):e.pure=⟨e.op,e.name,e.n,Cn e.args⟩:=by cases e;rfl
theorem Ir(e:St):e.pure=⟨e.kind,e.name,e.hand,Cn e.exprs,Ai e.thn,Ai e.els⟩:=by cases e;rfl
theorem Bi(l:List Ex):Cn l=l.map Ex.pure:=by
 induction l with
 |nil=>rfl
 |cons a r ih=>rw[Cn,ih];rfl
theorem Dg(l:List St):Ai l=l.map St.pure:=by
 induction l with
 |nil=>rfl
 |cons a r ih=>rw[Ai,ih];rfl
theorem Kn(f:Ex→List vU)(l:List Ex):Ea f l=l.flatMap (Ex.kids f):=by
 induction l with
 |nil=>rfl
 |cons a r ih=>rw[Ea,ih];rfl
theorem Lj(f:Ex→List vU)(g:St→List vU)(l:List St):Eh f g l=l.flatMap (St.kids f g):=by
 induction l with
 |nil=>rfl
 |cons a r ih=>rw[Eh,ih];rfl
def Lax(cs:List Ad):Prop:=∀c∈cs,c.owns=[]
theorem Lax.owns{cs:List Ad}(h:Lax cs):owns cs=[]:=by
 induction cs with
 |nil=>rfl
 | cons c r ih=>
   show c.owns++Sep.owns r=[];rw[h c (aNu ..),ih fun x hx=>h x (aNs _ hx)];rfl
theorem eu{c:Ad}{cs:List Ad}(h1:c.owns=[])(h:Lax cs):Lax (c::cs):=fun x hx=>by
 rcases aNx.1 hx with rfl|hx
 ·exact h1
 ·exact h x hx
theorem Lax.app{cs ds:List Ad}(h1:Lax cs)(h2:Lax ds):Lax (cs++ds):=fun x hx=>(aPi.1 hx).elim (h1 x) (h2 x)
theorem Lax.nil:Lax []:=fun _ h=>by cases h
theorem Gp{α:Type}{k:α→List Ad}{l:List α}(h:∀x∈l,Lax (k x)):Lax (l.flatMap k):=fun c hc=>by
 obtain⟨x,hx,hc⟩:=aOs.1 hc;exact h x hx c hc
mutual
theorem Ex.lax(f:Ex→List vU):∀e:Ex,Lax (e.kids f)
 |⟨_,_,_,_,_,l⟩=>eu rfl (jD f l)
theorem jD(f:Ex→List vU):∀l:List Ex,Lax (Ea f l)
 |[]=>Lax.nil
 |e::r=>Lax.app (Ex.lax f e) (jD f r)
end
mutual
theorem St.lax(f:Ex→List vU)(g:St→List vU):∀e:St,Lax (e.kids f g)
 |⟨_,_,_,_,_,l,_,_,t,_,_,e⟩=>Lax.app (eu rfl (jD f l)) (Lax.app (eu rfl (bU f g t)) (eu rfl (bU f g e)))
theorem bU(f:Ex→List vU)(g:St→List vU):∀l:List St,Lax (Eh f g l)
 |[]=>Lax.nil
 |e::r=>Lax.app (St.lax f g e) (bU f g r)
end
section
variable{C:Cx}{ρ:Bj}{Γ:List Ad}{K:Act→wD→Prop}{cs ds:List Ad}{c:Ad}
theorem Bv(i:Nat)(hi:Γ[i]?=some (all cs))(ds:List Ad)(hl:Lax ds)(h:∀c∈ds,c∈cs)(k:To C ρ (all ds::Γ) K):To C ρ Γ K:=
 Yg (all ds) hl.owns (fun g hg=>by
  obtain⟨c,hc,hgc⟩:=dm.1 (show g∈reads ds from hg);exact Tp i hi (show g∈reads cs from dm.2 ⟨c,h c hc,hgc⟩))
  (fun w hw=>Gh hl.owns fun c hc=>GU i hi (h c hc) w hw) k
theorem bv(i:Nat)(hi:Γ[i]?=some (all cs))(c:Ad)(ho:c.owns=[])(h:c∈cs)(k:To C ρ (c::Γ) K):To C ρ Γ K:=
 Yg c ho (fun g hg=>Tp i hi (show g∈reads cs from dm.2 ⟨c,h,hg⟩)) (GU i hi h) k
theorem Cw(k:To C ρ (all (c::cs)::Γ) K):To C ρ (c::all cs::Γ) K:=
 bz (aPd _ _ _) (CE (bz (Γ':=(c::cs)++Γ) aOl (CF k)))
theorem Ko(k:To C ρ (all (cs++ds)::Γ) K):To C ρ (all cs::all ds::Γ) K:=by
 refine CE (bz (Γ':=all ds::(cs++Γ)) aOl (CE (bz (Γ':=(cs++ds)++Γ) ?_ (CF k))));rw[←aOt];exact aPa.append_right Γ
theorem bV(k:To C ρ (all [c]::Γ) K):To C ρ (c::Γ) K:=CF (cs:=[c]) k
end
def Da(s:yB):List vU:=[.string s]
instance Di:Enc Da 1:=⟨fun _=>rfl,fun x u hu=>by simp[Da]at hu;subst hu;rfl⟩
open Go.RowKit Go.Flow Go.Mem Go.Sep Go.In
def nm(c k:Nat):yB:=fT [c,48+k]
def nms(c n:Nat):List yB:=(List.range n).map (nm c)
def nB0:yB:=fT [98,48]
def nT0:yB:=fT [116,48]
def nC(k:Nat):yB:=fT [97+k]
abbrev nE:yB:=bE
theorem Dq(c n:Nat):(nms c n).length=n:=by unfold nms;rw[aNv,List.length_range]
theorem Dw{c n k:Nat}(h:k<n):(nms c n)[k]?=some (nm c k):=by
 unfold nms;rw[aOf,List.getElem?_range h];rfl
theorem mI(c n:Nat):nms c (n+1)=nms c n++[nm c n]:=by unfold nms;rw[List.range_succ,aOb];rfl
structure Ct where
 ints:Nat
 tables:Nat
 flags:Nat
 own:Nat
 ars:List (List Nat)
structure Ct.Ok(c:Ct):Prop where
 ints:1≤c.ints∧c.ints≤3
 tables:c.tables≤1
 flags:c.flags≤2
 own:c.own<c.ars.length
 some:c.ars.length≤3
 each:∀l∈c.ars,1≤l.length∧l.length≤3∧∀x∈l,x≤2
inductive Kq(c:Ct)(np:Nat):Nat→PE→Prop
 |num (d n:Nat) (h:n<9):Kq c np d ⟨1,nE,n,[]⟩
 |var (d k:Nat) (h:k<c.ints):Kq c np d ⟨5,nm 120 k,0,[]⟩
 |par (d k:Nat) (h:k<np):Kq c np d ⟨5,nm 112 k,0,[]⟩
 |now (d:Nat):Kq c np d ⟨4,nE,0,[]⟩
 |get (d:Nat) (e:PE) (ht:0<c.tables) (h:Kq c np d e):Kq c np (d+1) ⟨6,nT0,0,[e]⟩
 |size (d:Nat) (ht:0<c.tables):Kq c np d ⟨8,nT0,0,[]⟩
 |neg (d:Nat) (e:PE) (h:Kq c np d e):Kq c np (d+1) ⟨9,nE,0,[e]⟩
 |bin (d op:Nat) (a b:PE) (ho:11≤op∧op≤15) (ha:Kq c np d a) (hb:Kq c np d b):Kq c np (d+1) ⟨op,nE,0,[a,b]⟩
inductive Ow(c:Ct)(np:Nat):Nat→PE→Prop
 |tf (d op:Nat) (h:op=2∨op=3):Ow c np d ⟨op,nE,0,[]⟩
 |b0 (d:Nat):Ow c np d ⟨5,nB0,0,[]⟩
 |flag (d k:Nat) (h:k<c.flags):Ow c np d ⟨5,nm 102 k,0,[]⟩
 |has (d:Nat) (e:PE) (ht:0<c.tables) (h:Kq c np 2 e):Ow c np d ⟨7,nT0,0,[e]⟩
 |not (d:Nat) (e:PE) (h:Ow c np d e):Ow c np (d+1) ⟨10,nE,0,[e]⟩
 |two (d op:Nat) (a b:PE) (ho:op=22∨op=23) (ha:Ow c np d a) (hb:Ow c np d b):Ow c np (d+1) ⟨op,nE,0,[a,b]⟩
 |cmp (d op:Nat) (a b:PE) (ho:16≤op∧op≤21) (ha:Kq c np 2 a) (hb:Kq c np 2 b):Ow c np d ⟨op,nE,0,[a,b]⟩
inductive StE(c:Ct)(np:Nat):Nat→PS→Prop
 |setB (d:Nat) (e:PE) (h:Ow c np 2 e):StE c np d ⟨1,nB0,nE,[e],[],[]⟩
 |setX (d k:Nat) (e:PE) (hk:k<c.ints) (h:Kq c np 3 e):StE c np d ⟨1,nm 120 k,nE,[e],[],[]⟩
 |put (d:Nat) (a b:PE) (ht:0<c.tables) (ha:Kq c np 3 a) (hb:Kq c np 3 b):StE c np d ⟨2,nT0,nE,[a,b],[],[]⟩
 |del (d:Nat) (a:PE) (ht:0<c.tables) (ha:Kq c np 3 a):StE c np d ⟨3,nT0,nE,[a],[],[]⟩
 |ife (d:Nat) (e:PE) (t l:List PS) (h:Ow c np 2 e) (ht:∀s∈t,StE c np d s) (hl:∀s∈l,StE c np d s):StE c np (d+1) ⟨4,nE,nE,[e],t,l⟩
 |whl (d:Nat) (e:PE) (t:List PS) (h:Ow c np 2 e) (ht:∀s∈t,StE c np d s):StE c np (d+1) ⟨5,nE,nE,[e],t,[]⟩
 |send (d to h:Nat) (ar:List Nat) (l:List PE) (ha:c.ars[to]?=some ar) (hh:ar[h]?=some l.length) (hl:∀e∈l,Kq c np 2 e):StE c np d ⟨6,nC to,nm 104 h,l,[],[]⟩
 |after (d h:Nat) (ar:List Nat) (e:PE) (l:List PE) (ha:c.ars[c.own]?=some ar) (hh:ar[h]?=some l.length) (he:Kq c np 2 e) (hl:∀e∈l,Kq c np 2 e):StE c np d ⟨7,nE,nm 104 h,e::l,[],[]⟩
 |store (d:Nat) (a b:PE) (l:List PS) (ha:Kq c np 2 a) (hb:Kq c np 2 b) (hl:∀s∈l,StE c np d s):StE c np (d+1) ⟨8,nE,nE,[a,b],[],l⟩
 |fetch (d k:Nat) (e:PE) (l:List PS) (hk:k<c.ints) (h:Kq c np 3 e) (hl:∀s∈l,StE c np d s):StE c np (d+1) ⟨9,nm 120 k,nE,[e],[],l⟩
 |stop (d:Nat):StE c np d ⟨10,nE,nE,[],[],[]⟩
mutual
def PS.cnt:PS→Nat
 |⟨_,_,_,_,t,e⟩=>1+Be t+Be e
def Be:List PS→Nat
 |[]=>0
 |s::r=>PS.cnt s+Be r
end
theorem Kr(l m:List PS):Be (l++m)=Be l+Be m:=by
 induction l with
 |nil=>show _=0+_;rw[aOz];rfl
 |cons a r ih=>show PS.cnt a+Be (r++m)=PS.cnt a+Be r+_;rw[ih];omega
structure Hd where
 name:yB
 Ap:OA
 qp:Nat
 ps:List yB
 Ab:OA
 qb:Nat
 body:List St
structure Vs where
 A:OA
 q:Nat
 l:List Hd
structure Vr where
 name:yB
 ty:Nat
 init:Int
structure Cm where
 name:yB
 Av:OA
 qv:Nat
 vars:List Vr
 An:OA
 qn:Nat
 vers:List Vs
abbrev cX(x:Cm)(r:List vU):List vU:= .string x.name::vs x.Av x.vars x.qv::vs x.An x.vers x.qn::r
structure Fg where
 name:yB
 init:Bool
structure Lk where
 src:yB
 dst:yB
 lat:Int
structure Fl where
 name:yB
 Af:OA
 qf:Nat
 flags:List Fg
 Al:OA
 ql:Nat
 links:List Lk
 Ac:OA
 qc:Nat
 comps:List Cm
abbrev cF(F:Fl)(r:List vU):List vU:= .string F.name::vs F.Af F.flags F.qf::vs F.Al F.links F.ql::vs F.Ac F.comps F.qc::r
def Iu(e:Hd):List vU:=[.string e.name, .slice e.Ap e.ps.length e.qp, .slice e.Ab e.body.length e.qb]
def Fb(e:Vs):List vU:=[.slice e.A e.l.length e.q]
def Qw(e:Vr):List vU:=[.string e.name,nv e.ty,iv e.init]
def He(e:Vr):List vU:=[.string e.name,ub e.ty,iv e.init]
def Gu(e:Cm):List vU:=[.string e.name, .slice e.Av e.vars.length e.qv, .slice e.An e.vers.length e.qn]
def Gb(e:Fg):List vU:=[.string e.name, .bool e.init]
def Jj(e:Lk):List vU:=[.string e.src, .string e.dst,iv e.lat]
def Fl.cells(e:Fl):List vU:=[.string e.name, .slice e.Af e.flags.length e.qf, .slice e.Al e.links.length e.ql, .slice e.Ac e.comps.length e.qc]
instance Yn:Enc Iu 3:=⟨fun _=>rfl,fun e u hu=>by
 simp only[Iu,aNx,aOe,aPh]at hu;rcases hu with rfl|rfl|rfl<;>rfl⟩
instance Ru:Enc Fb 1:=⟨fun _=>rfl,fun e u hu=>by
 simp only[Fb,aNx,aOe,aPh]at hu;subst hu;rfl⟩
instance mJ:Enc Qw 3:=⟨fun _=>rfl,fun e u hu=>by
 simp only[Qw,aNx,aOe,aPh]at hu;rcases hu with rfl|rfl|rfl<;>rfl⟩
instance yD:Enc He 3:=⟨fun _=>rfl,fun e u hu=>by
 simp only[He,aNx,aOe,aPh]at hu;rcases hu with rfl|rfl|rfl<;>rfl⟩
instance jE:Enc Gu 3:=⟨fun _=>rfl,fun e u hu=>by
 simp only[Gu,aNx,aOe,aPh]at hu;rcases hu with rfl|rfl|rfl<;>rfl⟩
instance mK:Enc Gb 2:=⟨fun _=>rfl,fun e u hu=>by
 simp only[Gb,aNx,aOe,aPh]at hu;rcases hu with rfl|rfl<;>rfl⟩
instance mM:Enc Jj 3:=⟨fun _=>rfl,fun e u hu=>by
 simp only[Jj,aNx,aOe,aPh]at hu;rcases hu with rfl|rfl|rfl<;>rfl⟩
structure Xm where
 f:Ex→List vU
 g:St→List vU
 v:Vr→List vU
def eR:Xm:=⟨Cy,Ht,Qw⟩
def eX:Xm:=⟨Bc,Bl,He⟩
def Hd.kids(k:Xm)(h:Hd):List Ad:=ros Da h.Ap h.ps::ros k.g h.Ab h.body::Eh k.f k.g h.body
def Vs.kids(k:Xm)(v:Vs):List Ad:=ros Iu v.A v.l::v.l.flatMap (Hd.kids k)
def Cm.kids(k:Xm)(c:Cm):List Ad:=ros k.v c.Av c.vars::ros Fb c.An c.vers::c.vers.flatMap (Vs.kids k)
def Fl.kids(k:Xm)(f:Fl):List Ad:=ros Gb f.Af f.flags::ros Jj f.Al f.links::ros Gu f.Ac f.comps::f.comps.flatMap (Cm.kids k)
theorem Hd.lax(k:Xm)(h:Hd):Lax (h.kids k):=eu rfl (eu rfl (bU k.f k.g h.body))
theorem Vs.lax(k:Xm)(v:Vs):Lax (v.kids k):=eu rfl (Gp fun h _=>h.lax k)
theorem Cm.lax(k:Xm)(v:Cm):Lax (v.kids k):=eu rfl (eu rfl (Gp fun h _=>h.lax k))
theorem Fl.lax(k:Xm)(v:Fl):Lax (v.kids k):=eu rfl (eu rfl (eu rfl (Gp fun h _=>h.lax k)))
structure PH where
 name:yB
 ps:List yB
 body:List PS
structure PC where
 name:yB
 vars:List Vr
 vers:List (List PH)
structure PF where
 name:yB
 flags:List Fg
 links:List Lk
 comps:List PC
def Hd.pure(h:Hd):PH:=⟨h.name,h.ps,Ai h.body⟩
def Vs.pure(v:Vs):List PH:=v.l.map Hd.pure
def Cm.pure(c:Cm):PC:=⟨c.name,c.vars,c.vers.map Vs.pure⟩
def Fl.pure(f:Fl):PF:=⟨f.name,f.flags,f.links,f.comps.map Cm.pure⟩
structure Zk(c:Ct)(ar:List Nat)(k:Nat)(h:PH):Prop where
 name:h.name=nm 104 k
 ps:∃np,ar[k]?=some np∧h.ps=nms 112 np∧∀s∈h.body,StE c np 3 s
 cnt:Be h.body≤12
def qV(c:Ct)(ar:List Nat)(l:List PH):Prop:=1≤l.length∧l.length≤ar.length∧∀k h,l[k]?=some h→Zk c ar k h
def varsOf(ints tables:Nat):List Vr:=(List.range ints).map (fun k=>⟨nm 120 k,1,(k:Int)⟩)++[⟨nB0,2,0⟩]++(List.range tables).map (fun _=>⟨nT0,3,0⟩)
structure Vw(flags:Nat)(ars:List (List Nat))(i:Nat)(c:PC):Prop where
 name:c.name=nC i
 vers:∃ints tables ar,(1≤ints∧ints≤3)∧tables≤1∧ars[i]?=some ar∧c.vars=varsOf ints tables∧(∀v∈c.vers,qV ⟨ints,tables,flags,i,ars⟩ ar v)∧(1≤c.vers.length∧c.vers.length≤2)∧∃v∈c.vers,v.length=ar.length
def yE(ars:List (List Nat)):Prop:=(1≤ars.length∧ars.length≤3)∧∀l∈ars,1≤l.length∧l.length≤3∧∀x∈l,x≤2
structure Nn(f:PF):Prop where
 name:f.name=fT [102,108,101,101,116,49]
 flags:f.flags.length≤2∧f.flags.map Fg.name=nms 102 f.flags.length
 links:f.links.length≤9∧(∀x∈f.links,∃i j,i<f.comps.length∧j<f.comps.length∧x.src=nC i∧x.dst=nC j∧1≤x.lat∧x.lat≤3)∧(f.links.map fun x=>(x.src,x.dst)).Nodup
 comps:∃ars,yE ars∧f.comps.length=ars.length∧∀i c,f.comps[i]?=some c→Vw f.flags.length ars i c
structure Cc where
 pn:yB→Ins
 vs:yB→Int
 ts:yB→Int
 tg:yB→yB→Int×Int
 ah:yB→Int
def opI(c:Cc)(op:Nat)(s:yB)(n:Int):Ins:=
 if op=1 then⟨1,0,0,n⟩else if op=2 then⟨1,0,0,1⟩else if op=3 then⟨1,0,0,0⟩else if op=4 then⟨5,0,0,0⟩else if op=5 then c.pn s
 else if op=6∨op=7∨op=8 then⟨op,c.ts s,0,0⟩else⟨op,0,0,0⟩
mutual
def cE(c:Cc):PE→List Ins
 |⟨op,s,n,l⟩=>cEs c l++[opI c op s n]
def cEs(c:Cc):List PE→List Ins
 |[]=>[]
 |e::r=>cE c e++cEs c r
end
def ovr(p:Nat)(e:List Ins)(b:Bool):List Ins:=if b then []else⟨27,((p+1+e.length:Nat):Int),0,0⟩::e
mutual
def cS(c:Cc):PS→Nat→List Ins
 | ⟨k,s,h,es,t,e⟩,top=>
   let x:=(⟨29,0,0,0⟩:Ins)::cEs c es;let p:=top+x.length+1;let j:Nat:=if e.isEmpty then 0 else 1
   x++(if k=1 then [⟨24,c.vs s,0,0⟩]else if k=2 then [⟨25,c.ts s,0,0⟩]else if k=3 then [⟨26,c.ts s,0,0⟩]
    else if k=4 then⟨28,((p+(cB c t p).length+j:Nat):Int),0,0⟩::(cB c t p++ovr (p+(cB c t p).length) (cB c e (p+(cB c t p).length+1)) e.isEmpty)
    else if k=5 then⟨28,((p+(cB c t p).length+1:Nat):Int),0,0⟩::(cB c t p++[⟨27,((top:Nat):Int),0,0⟩])
    else if k=6 then [⟨30,(c.tg s h).1,(c.tg s h).2,((es.length:Nat):Int)⟩]
    else if k=7 then [⟨31,0,c.ah h,((es.length:Nat):Int)-1⟩]
    else if k=8 then⟨32,0,((p+j:Nat):Int),0⟩::ovr p (cB c e (p+1)) e.isEmpty
    else if k=9 then⟨33,c.vs s,((p+j:Nat):Int),0⟩::ovr p (cB c e (p+1)) e.isEmpty
    else if k=10 then [⟨34,0,0,0⟩]else [])
def cB(c:Cc):List PS→Nat→List Ins
 |[],_=>[]
 |s::r,top=>cS c s top++cB c r (top+(cS c s top).length)
end
theorem JA(c:Cc)(l m:List PE):cEs c (l++m)=cEs c l++cEs c m:=by
 induction l with
 |nil=>rfl
 |cons a r ih=>show cE c a++cEs c (r++m)=(cE c a++cEs c r)++_;rw[ih,aOt]
theorem EA(c:Cc):∀(l m:List PS) (top:Nat),cB c (l++m) top=cB c l top++cB c m (top+(cB c l top).length)
 |[],m,top=>by show cB c m top=[]++cB c m (top+0);rfl
 | s::r,m,top=>by
   show cS c s top++cB c (r++m) _=(cS c s top++cB c r _)++cB c m (top+(cS c s top++cB c r _).length);rw[EA c r m,aOt,aj,Nat.add_assoc]
open Go.RowKit Go.Flow Go.Mem Go.Sep
def strOf(l:List Nat):yB:=(l.map fun n:Nat=>(n:Int)).foldl (fun r n=>r.push (UInt8.ofNat n.toNat)) bE
theorem TK(l:List Nat):l.flatMap Fa=(l.map fun n:Nat=>(n:Int)).map (Value.int .u8):=by
 induction l with
 |nil=>rfl
 |cons a r ih=>rw[aPl,ih];rfl
theorem yF{P:pG}{o:Oper}{ρ:Bj}{Γ:List Ad}{x:Operand}{src dst e:tI}{A:OA}{l:List Nat}{cap:Nat}(ho:o.op= .convert src dst x)(hs:P.underlying src=some (.slice e))(he:P.underlying e=some (.int .u8))(hd:P.underlying dst=some .string)
    (hx:ev ρ x=some (.slice A l.length cap)) (hr:∀w,oks Γ w→(ros Fa A l).holds w):Rd P o ρ Γ (.string (strOf l)):=fun a w ha hw=>by
 have hq:Src w A (l.flatMap Fa):=hr w hw;have hc:=run_convert_bytes_string (P:=P) w src dst e A l.length cap hs he hd;have hb:(Conv.bytesToString (.slice A l.length cap)).run P w= .ok (.string (strOf l)) w:=by
  cases A with
  | none=>
    have hl:l=[]:=by
     rcases hq with h|⟨g,off,h,_⟩
     · cases l with
       |nil=>rfl
       |cons z r=>exact aOx (aOa List.length h) (by simp[Fa])
     ·cases h
    subst hl;simp[Conv.bytesToString,strOf,aPp]
  | some ad=>
    refine run_bytesToString w ad l.length cap (l.map fun n:Nat=>(n:Int)) ?_;have hcell:∀j v,(l.flatMap Fa)[j]?=some v→w.cell? (ad.add j)=some v:=by
     intro j v hv;rcases hq with h|⟨g,off,h,h2⟩
     ·rw[h]at hv;cases hv
     · injection h with h;subst h
       rw[Addr.add_mid];exact h2 j v hv
    have h3:=run_loadCells_list (P:=P) (w:=w) ad (l.flatMap Fa) hcell;rw[TK,aNv,aNv]at h3;exact h3
 unfold execOp;simp[ho,ha.eval hx,hc,hb]
open Go.RowKit Go.Flow Go.Mem Go.Sep Go.In
structure Cd where
 params:Nat
 B:OA
 q:Nat
 bl:List Nat
structure Pt where
 ints:Nat
 tables:Nat
 Ah:OA
 qh:Nat
 hs:List Cd
 As:OA
 qs:Nat
 sec:List Cd
structure Pl where
 flags:Nat
 Al:OA
 ql:Nat
 links:List Nat
 Ac:OA
 qc:Nat
 comps:List Pt
abbrev cL(p:Pl)(r:List vU):List vU:=ub p.flags::vs p.Al p.links p.ql::vs p.Ac p.comps p.qc::r
def Mi(c:Cd):List vU:=[ub c.params, .slice c.B c.bl.length c.q]
def Sy(c:Pt):List vU:=[ub c.ints,ub c.tables, .slice c.Ah c.hs.length c.qh, .slice c.As c.sec.length c.qs]
def Pl.cells(c:Pl):List vU:=[ub c.flags, .slice c.Al c.links.length c.ql, .slice c.Ac c.comps.length c.qc]
instance aJz:Enc Mi 2:=⟨fun _=>rfl,fun e u hu=>by
 simp only[Mi,aNx,aOe,aPh]at hu;rcases hu with rfl|rfl<;>rfl⟩
instance aKa:Enc Sy 4:=⟨fun _=>rfl,fun e u hu=>by
 simp only[Sy,aNx,aOe,aPh]at hu;rcases hu with rfl|rfl|rfl|rfl<;>rfl⟩
def Cd.kids(c:Cd):List Ad:=[ros Fa c.B c.bl]
def Pt.kids(c:Pt):List Ad:=ros Mi c.Ah c.hs::ros Mi c.As c.sec::(c.hs++c.sec).flatMap Cd.kids
def Pl.kids(c:Pl):List Ad:=ros Fa c.Al c.links::ros Sy c.Ac c.comps::c.comps.flatMap Pt.kids
theorem Cd.lax(c:Cd):Lax c.kids:=eu rfl Lax.nil
theorem Pt.lax(c:Pt):Lax c.kids:=eu rfl (eu rfl (Gp fun h _=>h.lax))
theorem Pl.lax(c:Pl):Lax c.kids:=eu rfl (eu rfl (Gp fun h _=>h.lax))
def okB(l:List Nat)(q:Nat):Prop:=(∀x∈l,x<256)∧l.length≤q
theorem okB.drop{l:List Nat}{q:Nat}(h:okB l q)(n:Nat):okB (l.drop n) (q-n):=⟨fun x hx=>h.1 x (List.mem_of_mem_drop hx),by rw[aPw];have:=h.2;omega⟩
theorem okB.take{l:List Nat}{q:Nat}(h:okB l q)(n:Nat):okB (l.take n) q:=⟨fun x hx=>h.1 x (aPv hx),by rw[aOh];have:=h.2;omega⟩
def Cd.Ok(c:Cd):Prop:=c.params<256∧okB c.bl c.q
structure Pt.Ok(c:Pt):Prop where
 ints:c.ints<256
 tables:c.tables<256
 hs:c.hs.length≤c.qh
 sec:c.sec.length≤c.qs
 hk:∀x∈c.hs,x.Ok
 sk:∀x∈c.sec,x.Ok
structure Pl.Ok(c:Pl):Prop where
 flags:c.flags<256
 links:okB c.links c.ql
 comps:c.comps.length≤c.qc
 ck:∀x∈c.comps,x.Ok
structure Ar where
 A:OA
 q:Nat
 l:List Nat
def Pn(n:Nat):List vU:=[nv n]
instance bW:Enc Pn 1:=⟨fun _=>rfl,fun x u hu=>by simp[Pn]at hu;subst hu;rfl⟩
def bX(c:Ar):List vU:=[.slice c.A c.l.length c.q]
instance TL:Enc bX 1:=⟨fun _=>rfl,fun x u hu=>by simp[bX]at hu;subst hu;rfl⟩
def Ar.kids(a:Ar):List Ad:=[ros Pn a.A a.l]
def arsK(A:OA)(l:List Ar):List Ad:=ros bX A l::l.flatMap Ar.kids
theorem mO{A:OA}{l:List Ar}{a:Ar}(h:a∈l):ros Pn a.A a.l∈arsK A l:=aNs _ (aOs.2 ⟨a,h,aNu ..⟩)
def aFv(h s:List Nat):List Nat:=(List.range 3).filterMap fun k=>if k<h.length then h[k]?.map (·%3)else if k=0 then some 1 else if k<s.length then s[k]?.map (·%3)else none
end Go.Proofs.YtihgdnjkofpgiaaGreatDoor

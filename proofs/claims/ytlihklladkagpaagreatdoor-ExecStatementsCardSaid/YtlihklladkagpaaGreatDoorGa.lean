/- Own text. -/
import Derived.Test.YtlihklladkagpaaGreatDoorAa
set_option linter.unusedVariables false
set_option linter.unusedSimpArgs false
namespace Go.Proofs.YtlihklladkagpaaGreatDoor
open Go.RowKit Go.Flow Go.Mem Go.Sep
structure Ex where
 op:Nat
 name:ByteArray
 n:Int
 A:OA
 q:Nat
 args:List Ex
structure St where
 kind:Nat
 name:ByteArray
 hand:ByteArray
 A:OA
 q:Nat
 exprs:List Ex
 At:OA
 qt:Nat
 thn:List St
 Ae:OA
 qe:Nat
 els:List St
def Dk(e:Ex):List Value:=[nv e.op, .string e.name,iv e.n, .slice e.A e.args.length e.q]
def Bw(e:Ex):List Value:=[.int .u8 ((e.op:Nat):Int), .string e.name,iv e.n, .slice e.A e.args.length e.q]
def aMc(s:St):List Value:=[nv s.kind, .string s.name, .string s.hand, .slice s.A s.exprs.length s.q, .slice s.At s.thn.length s.qt, .slice s.Ae s.els.length s.qe]
def Dh(s:St):List Value:=[.int .u8 ((s.kind:Nat):Int), .string s.name, .string s.hand, .slice s.A s.exprs.length s.q, .slice s.At s.thn.length s.qt, .slice s.Ae s.els.length s.qe]
instance Uk:Enc Dk 4:=⟨fun _=>rfl,fun e u hu=>by
 simp only[Dk,aEi,aEs,or_false]at hu
 rcases hu with rfl|rfl|rfl|rfl<;>rfl⟩
instance Hw:Enc Bw 4:=⟨fun _=>rfl,fun e u hu=>by
 simp only[Bw,aEi,aEs,or_false]at hu
 rcases hu with rfl|rfl|rfl|rfl<;>rfl⟩
instance RN:Enc aMc 6:=⟨fun _=>rfl,fun e u hu=>by
 simp only[aMc,aEi,aEs,or_false]at hu
 rcases hu with rfl|rfl|rfl|rfl|rfl|rfl<;>rfl⟩
instance Jh:Enc Dh 6:=⟨fun _=>rfl,fun e u hu=>by
 simp only[Dh,aEi,aEs,or_false]at hu
 rcases hu with rfl|rfl|rfl|rfl|rfl|rfl<;>rfl⟩
mutual
def Ex.kids(f:Ex→List Value):Ex→List Ai
 |⟨_,_,_,A,_,l⟩=>ros f A l::El f l
def El(f:Ex→List Value):List Ex→List Ai
 |[]=>[]
 |e::r=>Ex.kids f e++El f r
end
mutual
def St.kids(f:Ex→List Value)(g:St→List Value):St→List Ai
 |⟨_,_,_,A,_,l,At,_,t,Ae,_,e⟩=>(ros f A l::El f l)++((ros g At t::Ez f g t)++(ros g Ae e::Ez f g e))
def Ez(f:Ex→List Value)(g:St→List Value):List St→List Ai
 |[]=>[]
 |e::r=>St.kids f g e++Ez f g r
end
structure PE where
 op:Nat
 name:ByteArray
 n:Int
 args:List PE
structure PS where
 kind:Nat
 name:ByteArray
 hand:ByteArray
 exprs:List PE
 thn:List PS
 els:List PS
mutual
def Ex.pure:Ex→PE
 |⟨o,s,n,_,_,l⟩=>⟨o,s,n,Cv l⟩
def Cv:List Ex→List PE
 |[]=>[]
 |e::r=>Ex.pure e::Cv r
end
mutual
def St.pure:St→PS
 |⟨k,s,h,_,_,l,_,_,t,_,_,e⟩=>⟨k,s,h,Cv l,Ba t,Ba e⟩
def Ba:List St→List PS
 |[]=>[]
 |e::r=>St.pure e::Ba r
end
theorem Lg(f:Ex→List Value)(e:Ex):e.kids f=ros f e.A e.args::El f e.args:=by cases e;rfl
theorem Rz(f:Ex→List Value)(g:St→List Value)(e:St):e.kids f g=(ros f e.A e.exprs::El f e.exprs)++((ros g e.At e.thn::Ez f g e.thn)++(ros g e.Ae e.els::Ez f g e.els)):=by cases e;rfl
theorem Fu(e:Ex):e.pure=⟨e.op,e.name,e.n,Cv e.args⟩:=by cases e;rfl
theorem Nh(e:St):e.pure=⟨e.kind,e.name,e.hand,Cv e.exprs,Ba e.thn,Ba e.els⟩:=by cases e;rfl
theorem Bz(l:List Ex):Cv l=l.map Ex.pure:=by
 induction l with
 |nil=>rfl
 |cons a r ih=>rw[Cv,ih];rfl
theorem Je(l:List St):Ba l=l.map St.pure:=by
 induction l with
 |nil=>rfl
 |cons a r ih=>rw[Ba,ih];rfl
theorem Nc(f:Ex→List Value)(l:List Ex):El f l=l.flatMap (Ex.kids f):=by
 induction l with
 |nil=>rfl
 |cons a r ih=>rw[El,ih];rfl
theorem Pi(f:Ex→List Value)(g:St→List Value)(l:List St):Ez f g l=l.flatMap (St.kids f g):=by
 induction l with
 |nil=>rfl
 |cons a r ih=>rw[Ez,ih];rfl
def Lax(cs:List Ai):Prop:=∀c∈cs,c.owns=[]
theorem Lax.owns{cs:List Ai}(h:Lax cs):owns cs=[]:=by
 induction cs with
 |nil=>rfl
 | cons c r ih=>
   show c.owns++Sep.owns r=[]
   rw[h c (aEd ..),ih fun x hx=>h x (aEb _ hx)];rfl
theorem Lax.cons{c:Ai}{cs:List Ai}(h1:c.owns=[])(h:Lax cs):Lax (c::cs):=fun x hx=>by
 rcases aEi.1 hx with rfl|hx
 ·exact h1
 ·exact h x hx
theorem Lax.app{cs ds:List Ai}(h1:Lax cs)(h2:Lax ds):Lax (cs++ds):=fun x hx=>(aFi.1 hx).elim (h1 x) (h2 x)
theorem Lax.nil:Lax []:=fun _ h=>by cases h
theorem Hm{α:Type}{k:α→List Ai}{l:List α}(h:∀x∈l,Lax (k x)):Lax (l.flatMap k):=fun c hc=>by
 obtain⟨x,hx,hc⟩:=aEy.1 hc
 exact h x hx c hc
mutual
theorem Ex.lax(f:Ex→List Value):∀e:Ex,Lax (e.kids f)
 |⟨_,_,_,_,_,l⟩=>Lax.cons rfl (fC f l)
theorem fC(f:Ex→List Value):∀l:List Ex,Lax (El f l)
 |[]=>Lax.nil
 |e::r=>Lax.app (Ex.lax f e) (fC f r)
end
mutual
theorem St.lax(f:Ex→List Value)(g:St→List Value):∀e:St,Lax (e.kids f g)
 |⟨_,_,_,_,_,l,_,_,t,_,_,e⟩=>Lax.app (Lax.cons rfl (fC f l)) (Lax.app (Lax.cons rfl (aD f g t)) (Lax.cons rfl (aD f g e)))
theorem aD(f:Ex→List Value)(g:St→List Value):∀l:List St,Lax (Ez f g l)
 |[]=>Lax.nil
 |e::r=>Lax.app (St.lax f g e) (aD f g r)
end
section
variable{C:Cx}{ρ:Cb}{Γ:List Ai}{K:Act→World→Prop}{cs ds:List Ai}{c:Ai}
theorem Db(i:Nat)(hi:Γ[i]?=some (all cs))(ds:List Ai)(hl:Lax ds)(h:∀c∈ds,c∈cs)(k:To C ρ (all ds::Γ) K):To C ρ Γ K:=
 Sl (all ds) hl.owns (fun g hg=>by
  obtain⟨c,hc,hgc⟩:=mem_reads.1 (show g∈reads ds from hg)
  exact Tn i hi (show g∈reads cs from mem_reads.2 ⟨c,h c hc,hgc⟩))
  (fun w hw=>Ig hl.owns fun c hc=>zL i hi (h c hc) w hw) k
theorem To.one(i:Nat)(hi:Γ[i]?=some (all cs))(c:Ai)(ho:c.owns=[])(h:c∈cs)(k:To C ρ (c::Γ) K):To C ρ Γ K:=
 Sl c ho (fun g hg=>Tn i hi (show g∈reads cs from mem_reads.2 ⟨c,h,hg⟩)) (zL i hi h) k
theorem Dn(k:To C ρ (all (c::cs)::Γ) K):To C ρ (c::all cs::Γ) K:=
 To.perm (aFc _ _ _) (wG (To.perm (Γ':=(c::cs)++Γ) aEl (wH k)))
theorem Kq(k:To C ρ (all (cs++ds)::Γ) K):To C ρ (all cs::all ds::Γ) K:=by
 refine wG (To.perm (Γ':=all ds::(cs++Γ)) aEl (wG (To.perm (Γ':=(cs++ds)++Γ) ?_ (wH k))))
 rw[←aFb];exact aEt.append_right Γ
theorem aF(k:To C ρ (all [c]::Γ) K):To C ρ (c::Γ) K:=wH (cs:=[c]) k
end
def aMb(s:ByteArray):List Value:=[.string s]
instance Ec:Enc aMb 1:=⟨fun _=>rfl,fun x u hu=>by simp[aMb]at hu;subst hu;rfl⟩
open Go.RowKit Go.Flow Go.Mem Go.Sep Go.In
def nm(c k:Nat):ByteArray:=aLy [c,48+k]
def nms(c n:Nat):List ByteArray:=(List.range n).map (nm c)
def nB0:ByteArray:=aLy [98,48]
def nT0:ByteArray:=aLy [116,48]
def nC(k:Nat):ByteArray:=aLy [97+k]
abbrev nE:ByteArray:=bE
theorem Dq(c n:Nat):(nms c n).length=n:=by unfold nms;rw[aEg,List.length_range]
theorem Ea{c n k:Nat}(h:k<n):(nms c n)[k]?=some (nm c k):=by
 unfold nms;rw[aEp,List.getElem?_range h];rfl
theorem jG(c n:Nat):nms c (n+1)=nms c n++[nm c n]:=by unfold nms;rw[List.range_succ,aEq];rfl
structure Ct where
 ints:Nat
 tables:Nat
 flags:Nat
 own:Nat
 ars:List (List Nat)
structure Ct.Ok(c:Ct):Prop where
 ints:1≤c.ints∧c.ints≤3
 tables:c.tables≤1
 flags:c.flags≤2
 own:c.own<c.ars.length
 some:c.ars.length≤3
 each:∀l∈c.ars,1≤l.length∧l.length≤3∧∀x∈l,x≤2
inductive Kh(c:Ct)(np:Nat):Nat→PE→Prop
 |num (d n:Nat) (h:n<9):Kh c np d ⟨1,nE,n,[]⟩
 |var (d k:Nat) (h:k<c.ints):Kh c np d ⟨5,nm 120 k,0,[]⟩
 |par (d k:Nat) (h:k<np):Kh c np d ⟨5,nm 112 k,0,[]⟩
 |now (d:Nat):Kh c np d ⟨4,nE,0,[]⟩
 |get (d:Nat) (e:PE) (ht:0<c.tables) (h:Kh c np d e):Kh c np (d+1) ⟨6,nT0,0,[e]⟩
 |size (d:Nat) (ht:0<c.tables):Kh c np d ⟨8,nT0,0,[]⟩
 |neg (d:Nat) (e:PE) (h:Kh c np d e):Kh c np (d+1) ⟨9,nE,0,[e]⟩
 |bin (d op:Nat) (a b:PE) (ho:11≤op∧op≤15) (ha:Kh c np d a) (hb:Kh c np d b):Kh c np (d+1) ⟨op,nE,0,[a,b]⟩
inductive Pj(c:Ct)(np:Nat):Nat→PE→Prop
 |tf (d op:Nat) (h:op=2∨op=3):Pj c np d ⟨op,nE,0,[]⟩
 |b0 (d:Nat):Pj c np d ⟨5,nB0,0,[]⟩
 |flag (d k:Nat) (h:k<c.flags):Pj c np d ⟨5,nm 102 k,0,[]⟩
 |has (d:Nat) (e:PE) (ht:0<c.tables) (h:Kh c np 2 e):Pj c np d ⟨7,nT0,0,[e]⟩
 |not (d:Nat) (e:PE) (h:Pj c np d e):Pj c np (d+1) ⟨10,nE,0,[e]⟩
 |two (d op:Nat) (a b:PE) (ho:op=22∨op=23) (ha:Pj c np d a) (hb:Pj c np d b):Pj c np (d+1) ⟨op,nE,0,[a,b]⟩
 |cmp (d op:Nat) (a b:PE) (ho:16≤op∧op≤21) (ha:Kh c np 2 a) (hb:Kh c np 2 b):Pj c np d ⟨op,nE,0,[a,b]⟩
inductive StE(c:Ct)(np:Nat):Nat→PS→Prop
 |setB (d:Nat) (e:PE) (h:Pj c np 2 e):StE c np d ⟨1,nB0,nE,[e],[],[]⟩
 |setX (d k:Nat) (e:PE) (hk:k<c.ints) (h:Kh c np 3 e):StE c np d ⟨1,nm 120 k,nE,[e],[],[]⟩
 |put (d:Nat) (a b:PE) (ht:0<c.tables) (ha:Kh c np 3 a) (hb:Kh c np 3 b):StE c np d ⟨2,nT0,nE,[a,b],[],[]⟩
 |del (d:Nat) (a:PE) (ht:0<c.tables) (ha:Kh c np 3 a):StE c np d ⟨3,nT0,nE,[a],[],[]⟩
 |ife (d:Nat) (e:PE) (t l:List PS) (h:Pj c np 2 e) (ht:∀s∈t,StE c np d s) (hl:∀s∈l,StE c np d s):StE c np (d+1) ⟨4,nE,nE,[e],t,l⟩
 |whl (d:Nat) (e:PE) (t:List PS) (h:Pj c np 2 e) (ht:∀s∈t,StE c np d s):StE c np (d+1) ⟨5,nE,nE,[e],t,[]⟩
 |send (d to h:Nat) (ar:List Nat) (l:List PE) (ha:c.ars[to]?=some ar) (hh:ar[h]?=some l.length) (hl:∀e∈l,Kh c np 2 e):StE c np d ⟨6,nC to,nm 104 h,l,[],[]⟩
 |after (d h:Nat) (ar:List Nat) (e:PE) (l:List PE) (ha:c.ars[c.own]?=some ar) (hh:ar[h]?=some l.length) (he:Kh c np 2 e) (hl:∀e∈l,Kh c np 2 e):StE c np d ⟨7,nE,nm 104 h,e::l,[],[]⟩
 |store (d:Nat) (a b:PE) (l:List PS) (ha:Kh c np 2 a) (hb:Kh c np 2 b) (hl:∀s∈l,StE c np d s):StE c np (d+1) ⟨8,nE,nE,[a,b],[],l⟩
 |fetch (d k:Nat) (e:PE) (l:List PS) (hk:k<c.ints) (h:Kh c np 3 e) (hl:∀s∈l,StE c np d s):StE c np (d+1) ⟨9,nm 120 k,nE,[e],[],l⟩
 |stop (d:Nat):StE c np d ⟨10,nE,nE,[],[],[]⟩
mutual
def PS.cnt:PS→Nat
 |⟨_,_,_,_,t,e⟩=>1+Ca t+Ca e
def Ca:List PS→Nat
 |[]=>0
 |s::r=>PS.cnt s+Ca r
end
theorem Qs(l m:List PS):Ca (l++m)=Ca l+Ca m:=by
 induction l with
 |nil=>show _=0+_;rw[aFl];rfl
 |cons a r ih=>show PS.cnt a+Ca (r++m)=PS.cnt a+Ca r+_;rw[ih];omega
structure Hd where
 name:ByteArray
 Ap:OA
 qp:Nat
 ps:List ByteArray
 Ab:OA
 qb:Nat
 body:List St
structure Vs where
 A:OA
 q:Nat
 l:List Hd
structure Vr where
 name:ByteArray
 ty:Nat
 init:Int
structure Cm where
 name:ByteArray
 Av:OA
 qv:Nat
 vars:List Vr
 An:OA
 qn:Nat
 vers:List Vs
abbrev cX(x:Cm)(r:List Value):List Value:= .string x.name::vs x.Av x.vars x.qv::vs x.An x.vers x.qn::r
structure Fg where
 name:ByteArray
 init:Bool
structure Lk where
 src:ByteArray
 dst:ByteArray
 lat:Int
structure Fl where
 name:ByteArray
 Af:OA
 qf:Nat
 flags:List Fg
 Al:OA
 ql:Nat
 links:List Lk
 Ac:OA
 qc:Nat
 comps:List Cm
abbrev cF(F:Fl)(r:List Value):List Value:= .string F.name::vs F.Af F.flags F.qf::vs F.Al F.links F.ql::vs F.Ac F.comps F.qc::r
def Me(e:Hd):List Value:=[.string e.name, .slice e.Ap e.ps.length e.qp, .slice e.Ab e.body.length e.qb]
def Ik(e:Vs):List Value:=[.slice e.A e.l.length e.q]
def Oj(e:Vr):List Value:=[.string e.name,nv e.ty,iv e.init]
def Iy(e:Vr):List Value:=[.string e.name, .int .u8 ((e.ty:Nat):Int),iv e.init]
def Jl(e:Cm):List Value:=[.string e.name, .slice e.Av e.vars.length e.qv, .slice e.An e.vers.length e.qn]
def Gx(e:Fg):List Value:=[.string e.name, .bool e.init]
def Lb(e:Lk):List Value:=[.string e.src, .string e.dst,iv e.lat]
def Fl.cells(e:Fl):List Value:=[.string e.name, .slice e.Af e.flags.length e.qf, .slice e.Al e.links.length e.ql, .slice e.Ac e.comps.length e.qc]
instance fD:Enc Me 3:=⟨fun _=>rfl,fun e u hu=>by
 simp only[Me,aEi,aEs,or_false]at hu
 rcases hu with rfl|rfl|rfl<;>rfl⟩
instance Vy:Enc Ik 1:=⟨fun _=>rfl,fun e u hu=>by
 simp only[Ik,aEi,aEs,or_false]at hu
 subst hu;rfl⟩
instance jH:Enc Oj 3:=⟨fun _=>rfl,fun e u hu=>by
 simp only[Oj,aEi,aEs,or_false]at hu
 rcases hu with rfl|rfl|rfl<;>rfl⟩
instance KW:Enc Iy 3:=⟨fun _=>rfl,fun e u hu=>by
 simp only[Iy,aEi,aEs,or_false]at hu
 rcases hu with rfl|rfl|rfl<;>rfl⟩
instance BB:Enc Jl 3:=⟨fun _=>rfl,fun e u hu=>by
 simp only[Jl,aEi,aEs,or_false]at hu
 rcases hu with rfl|rfl|rfl<;>rfl⟩
instance tN:Enc Gx 2:=⟨fun _=>rfl,fun e u hu=>by
 simp only[Gx,aEi,aEs,or_false]at hu
 rcases hu with rfl|rfl<;>rfl⟩
instance tO:Enc Lb 3:=⟨fun _=>rfl,fun e u hu=>by
 simp only[Lb,aEi,aEs,or_false]at hu
 rcases hu with rfl|rfl|rfl<;>rfl⟩
structure Xl where
 f:Ex→List Value
 g:St→List Value
 v:Vr→List Value
def eR:Xl:=⟨Dk,aMc,Oj⟩
def eX:Xl:=⟨Bw,Dh,Iy⟩
def Hd.kids(k:Xl)(h:Hd):List Ai:=ros aMb h.Ap h.ps::ros k.g h.Ab h.body::Ez k.f k.g h.body
def Vs.kids(k:Xl)(v:Vs):List Ai:=ros Me v.A v.l::v.l.flatMap (Hd.kids k)
def Cm.kids(k:Xl)(c:Cm):List Ai:=ros k.v c.Av c.vars::ros Ik c.An c.vers::c.vers.flatMap (Vs.kids k)
def Fl.kids(k:Xl)(f:Fl):List Ai:=ros Gx f.Af f.flags::ros Lb f.Al f.links::ros Jl f.Ac f.comps::f.comps.flatMap (Cm.kids k)
theorem Hd.lax(k:Xl)(h:Hd):Lax (h.kids k):=Lax.cons rfl (Lax.cons rfl (aD k.f k.g h.body))
theorem Vs.lax(k:Xl)(v:Vs):Lax (v.kids k):=Lax.cons rfl (Hm fun h _=>h.lax k)
theorem Cm.lax(k:Xl)(v:Cm):Lax (v.kids k):=Lax.cons rfl (Lax.cons rfl (Hm fun h _=>h.lax k))
theorem Fl.lax(k:Xl)(v:Fl):Lax (v.kids k):=Lax.cons rfl (Lax.cons rfl (Lax.cons rfl (Hm fun h _=>h.lax k)))
structure PH where
 name:ByteArray
 ps:List ByteArray
 body:List PS
structure PC where
 name:ByteArray
 vars:List Vr
 vers:List (List PH)
structure PF where
 name:ByteArray
 flags:List Fg
 links:List Lk
 comps:List PC
def Hd.pure(h:Hd):PH:=⟨h.name,h.ps,Ba h.body⟩
def Vs.pure(v:Vs):List PH:=v.l.map Hd.pure
def Cm.pure(c:Cm):PC:=⟨c.name,c.vars,c.vers.map Vs.pure⟩
def Fl.pure(f:Fl):PF:=⟨f.name,f.flags,f.links,f.comps.map Cm.pure⟩
structure Xr(c:Ct)(ar:List Nat)(k:Nat)(h:PH):Prop where
 name:h.name=nm 104 k
 ps:∃np,ar[k]?=some np∧h.ps=nms 112 np∧∀s∈h.body,StE c np 3 s
 cnt:Ca h.body≤12
def mU(c:Ct)(ar:List Nat)(l:List PH):Prop:=1≤l.length∧l.length≤ar.length∧∀k h,l[k]?=some h→Xr c ar k h
def varsOf(ints tables:Nat):List Vr:=(List.range ints).map (fun k=>⟨nm 120 k,1,(k:Int)⟩)++[⟨nB0,2,0⟩]++(List.range tables).map (fun _=>⟨nT0,3,0⟩)
structure Uy(flags:Nat)(ars:List (List Nat))(i:Nat)(c:PC):Prop where
 name:c.name=nC i
 vers:∃ints tables ar,(1≤ints∧ints≤3)∧tables≤1∧ars[i]?=some ar∧c.vars=varsOf ints tables∧(∀v∈c.vers,mU ⟨ints,tables,flags,i,ars⟩ ar v)∧(1≤c.vers.length∧c.vers.length≤2)∧∃v∈c.vers,v.length=ar.length
def tT(ars:List (List Nat)):Prop:=(1≤ars.length∧ars.length≤3)∧∀l∈ars,1≤l.length∧l.length≤3∧∀x∈l,x≤2
structure Ku(f:PF):Prop where
 name:f.name=aLy [102,108,101,101,116,49]
 flags:f.flags.length≤2∧f.flags.map Fg.name=nms 102 f.flags.length
 links:f.links.length≤9∧(∀x∈f.links,∃i j,i<f.comps.length∧j<f.comps.length∧x.src=nC i∧x.dst=nC j∧1≤x.lat∧x.lat≤3)∧(f.links.map fun x=>(x.src,x.dst)).Nodup
 comps:∃ars,tT ars∧f.comps.length=ars.length∧∀i c,f.comps[i]?=some c→Uy f.flags.length ars i c
end Go.Proofs.YtlihklladkagpaaGreatDoor

/- Merged out of G1, G2, G3 by merge.py. Own text. -/
import Derived.Test.YtihgdnjkofpgiaaGreatDoorAa
set_option linter.unusedVariables false
set_option linter.unusedSimpArgs false
namespace Go.Proofs.YtihgdnjkofpgiaaGreatDoor
open Go.RowKit Go.Flow Go.Mem Go.Sep
structure Ex where
 op:Nat
 name:ByteArray
 n:Int
 A:Option Addr
 q:Nat
 args:List Ex
structure St where
 kind:Nat
 name:ByteArray
 hand:ByteArray
 A:Option Addr
 q:Nat
 exprs:List Ex
 At:Option Addr
 qt:Nat
 thn:List St
 Ae:Option Addr
 qe:Nat
 els:List St
def encE(e:Ex):List Value:=[nv e.op, .string e.name, .int .i64 e.n, .slice e.A e.args.length e.q]
def encX(e:Ex):List Value:=[.int .u8 ((e.op:Nat):Int), .string e.name, .int .i64 e.n, .slice e.A e.args.length e.q]
def encS(s:St):List Value:=[nv s.kind, .string s.name, .string s.hand, .slice s.A s.exprs.length s.q, .slice s.At s.thn.length s.qt, .slice s.Ae s.els.length s.qe]
def encT(s:St):List Value:=[.int .u8 ((s.kind:Nat):Int), .string s.name, .string s.hand, .slice s.A s.exprs.length s.q, .slice s.At s.thn.length s.qt, .slice s.Ae s.els.length s.qe]
instance encE_ok:Enc encE 4:=⟨fun _=>rfl,fun e u hu=>by
 simp only[encE,List.mem_cons,List.not_mem_nil,or_false]at hu
 rcases hu with rfl|rfl|rfl|rfl<;>rfl⟩
instance encX_ok:Enc encX 4:=⟨fun _=>rfl,fun e u hu=>by
 simp only[encX,List.mem_cons,List.not_mem_nil,or_false]at hu
 rcases hu with rfl|rfl|rfl|rfl<;>rfl⟩
instance encS_ok:Enc encS 6:=⟨fun _=>rfl,fun e u hu=>by
 simp only[encS,List.mem_cons,List.not_mem_nil,or_false]at hu
 rcases hu with rfl|rfl|rfl|rfl|rfl|rfl<;>rfl⟩
instance encT_ok:Enc encT 6:=⟨fun _=>rfl,fun e u hu=>by
 simp only[encT,List.mem_cons,List.not_mem_nil,or_false]at hu
 rcases hu with rfl|rfl|rfl|rfl|rfl|rfl<;>rfl⟩
mutual
def Ex.kids(f:Ex→List Value):Ex→List Chunk
 |⟨_,_,_,A,_,l⟩=>ros f A l::Ex.kidsL f l
def Ex.kidsL(f:Ex→List Value):List Ex→List Chunk
 |[]=>[]
 |e::r=>Ex.kids f e++Ex.kidsL f r
end
mutual
def St.kids(f:Ex→List Value)(g:St→List Value):St→List Chunk
 |⟨_,_,_,A,_,l,At,_,t,Ae,_,e⟩=>(ros f A l::Ex.kidsL f l)++((ros g At t::St.kidsL f g t)++(ros g Ae e::St.kidsL f g e))
def St.kidsL(f:Ex→List Value)(g:St→List Value):List St→List Chunk
 |[]=>[]
 |e::r=>St.kids f g e++St.kidsL f g r
end
structure PE where
 op:Nat
 name:ByteArray
 n:Int
 args:List PE
structure PS where
 kind:Nat
 name:ByteArray
 hand:ByteArray
 exprs:List PE
 thn:List PS
 els:List PS
mutual
def Ex.pure:Ex→PE
 |⟨o,s,n,_,_,l⟩=>⟨o,s,n,Ex.pL l⟩
def Ex.pL:List Ex→List PE
 |[]=>[]
 |e::r=>Ex.pure e::Ex.pL r
end
mutual
def St.pure:St→PS
 |⟨k,s,h,_,_,l,_,_,t,_,_,e⟩=>⟨k,s,h,Ex.pL l,St.pL t,St.pL e⟩
def St.pL:List St→List PS
 |[]=>[]
 |e::r=>St.pure e::St.pL r
end
theorem Ex.kids_eq(f:Ex→List Value)(e:Ex):e.kids f=ros f e.A e.args::Ex.kidsL f e.args:=by cases e;rfl
theorem St.kids_eq(f:Ex→List Value)(g:St→List Value)(e:St):e.kids f g=(ros f e.A e.exprs::Ex.kidsL f e.exprs)++((ros g e.At e.thn::St.kidsL f g e.thn)++(ros g e.Ae e.els::St.kidsL f g e.els)):=by cases e;rfl
theorem Ex.pure_eq(e:Ex):e.pure=⟨e.op,e.name,e.n,Ex.pL e.args⟩:=by cases e;rfl
theorem St.pq(e:St):e.pure=⟨e.kind,e.name,e.hand,Ex.pL e.exprs,St.pL e.thn,St.pL e.els⟩:=by cases e;rfl
theorem Ex.pureL_map(l:List Ex):Ex.pL l=l.map Ex.pure:=by
 induction l with
 |nil=>rfl
 |cons a r ih=>rw[Ex.pL,ih];rfl
theorem St.pm(l:List St):St.pL l=l.map St.pure:=by
 induction l with
 |nil=>rfl
 |cons a r ih=>rw[St.pL,ih];rfl
theorem Ex.kidsL_map(f:Ex→List Value)(l:List Ex):Ex.kidsL f l=l.flatMap (Ex.kids f):=by
 induction l with
 |nil=>rfl
 |cons a r ih=>rw[Ex.kidsL,ih];rfl
theorem St.kidsL_map(f:Ex→List Value)(g:St→List Value)(l:List St):St.kidsL f g l=l.flatMap (St.kids f g):=by
 induction l with
 |nil=>rfl
 |cons a r ih=>rw[St.kidsL,ih];rfl
def Lax(cs:List Chunk):Prop:=∀c∈cs,c.owns=[]
theorem Lax.owns{cs:List Chunk}(h:Lax cs):owns cs=[]:=by
 induction cs with
 |nil=>rfl
 | cons c r ih=>
   show c.owns++Sep.owns r=[]
   rw[h c (List.mem_cons_self ..),ih fun x hx=>h x (List.mem_cons_of_mem _ hx)];rfl
theorem Lax.cons{c:Chunk}{cs:List Chunk}(h1:c.owns=[])(h:Lax cs):Lax (c::cs):=fun x hx=>by
 rcases List.mem_cons.1 hx with rfl|hx
 ·exact h1
 ·exact h x hx
theorem Lax.app{cs ds:List Chunk}(h1:Lax cs)(h2:Lax ds):Lax (cs++ds):=fun x hx=>(List.mem_append.1 hx).elim (h1 x) (h2 x)
theorem Lax.nil:Lax []:=fun _ h=>by cases h
theorem Lax.flat{α:Type}{k:α→List Chunk}{l:List α}(h:∀x∈l,Lax (k x)):Lax (l.flatMap k):=fun c hc=>by
 obtain⟨x,hx,hc⟩:=List.mem_flatMap.1 hc
 exact h x hx c hc
mutual
theorem Ex.lax(f:Ex→List Value):∀e:Ex,Lax (e.kids f)
 |⟨_,_,_,_,_,l⟩=>Lax.cons rfl (Ex.laxL f l)
theorem Ex.laxL(f:Ex→List Value):∀l:List Ex,Lax (Ex.kidsL f l)
 |[]=>Lax.nil
 |e::r=>Lax.app (Ex.lax f e) (Ex.laxL f r)
end
mutual
theorem St.lax(f:Ex→List Value)(g:St→List Value):∀e:St,Lax (e.kids f g)
 |⟨_,_,_,_,_,l,_,_,t,_,_,e⟩=>Lax.app (Lax.cons rfl (Ex.laxL f l)) (Lax.app (Lax.cons rfl (St.laxL f g t)) (Lax.cons rfl (St.laxL f g e)))
theorem St.laxL(f:Ex→List Value)(g:St→List Value):∀l:List St,Lax (St.kidsL f g l)
 |[]=>Lax.nil
 |e::r=>Lax.app (St.lax f g e) (St.laxL f g r)
end
section
variable{C:Cx}{ρ:Slots}{Γ:List Chunk}{K:Act→World→Prop}{cs ds:List Chunk}{c:Chunk}
theorem To.part(i:Nat)(hi:Γ[i]?=some (all cs))(ds:List Chunk)(hl:Lax ds)(h:∀c∈ds,c∈cs)(k:To C ρ (all ds::Γ) K):To C ρ Γ K:=
 To.derive (all ds) hl.owns (fun g hg=>by
  obtain⟨c,hc,hgc⟩:=mem_reads.1 (show g∈reads ds from hg)
  exact reads_at i hi (show g∈reads cs from mem_reads.2 ⟨c,h c hc,hgc⟩))
  (fun w hw=>sat_of_oks hl.owns fun c hc=>oks_all i hi (h c hc) w hw) k
theorem To.one(i:Nat)(hi:Γ[i]?=some (all cs))(c:Chunk)(ho:c.owns=[])(h:c∈cs)(k:To C ρ (c::Γ) K):To C ρ Γ K:=
 To.derive c ho (fun g hg=>reads_at i hi (show g∈reads cs from mem_reads.2 ⟨c,h,hg⟩)) (oks_all i hi h) k
theorem To.allCons(k:To C ρ (all (c::cs)::Γ) K):To C ρ (c::all cs::Γ) K:=
 To.perm (List.Perm.swap _ _ _) (To.unall (To.perm (Γ':=(c::cs)++Γ) List.perm_middle (To.toall k)))
theorem To.allApp(k:To C ρ (all (cs++ds)::Γ) K):To C ρ (all cs::all ds::Γ) K:=by
 refine To.unall ?_
 refine To.perm (Γ':=all ds::(cs++Γ)) List.perm_middle ?_
 refine To.unall (To.perm (Γ':=(cs++ds)++Γ) ?_ (To.toall k))
 rw[←List.append_assoc];exact List.perm_append_comm.append_right Γ
end
def encZ(s:ByteArray):List Value:=[.string s]
instance encZ_ok:Enc encZ 1:=⟨fun _=>rfl,fun x u hu=>by simp[encZ]at hu;subst hu;rfl⟩
open Go.RowKit Go.Flow Go.Mem Go.Sep Go.In
def nm(c k:Nat):ByteArray:=bytesOf [c,48+k]
def nms(c n:Nat):List ByteArray:=(List.range n).map (nm c)
def nB0:ByteArray:=bytesOf [98,48]
def nT0:ByteArray:=bytesOf [116,48]
def nC(k:Nat):ByteArray:=bytesOf [97+k]
abbrev nE:ByteArray:=bE
theorem nms_len(c n:Nat):(nms c n).length=n:=by unfold nms;rw[List.length_map,List.length_range]
theorem nms_get{c n k:Nat}(h:k<n):(nms c n)[k]?=some (nm c k):=by
 unfold nms;rw[List.getElem?_map,List.getElem?_range h];rfl
theorem nms_succ(c n:Nat):nms c (n+1)=nms c n++[nm c n]:=by unfold nms;rw[List.range_succ,List.map_append];rfl
structure Ct where
 ints:Nat
 tables:Nat
 flags:Nat
 own:Nat
 ars:List (List Nat)
structure Ct.Ok(c:Ct):Prop where
 ints:1≤c.ints∧c.ints≤3
 tables:c.tables≤1
 flags:c.flags≤2
 own:c.own<c.ars.length
 some:c.ars.length≤3
 each:∀l∈c.ars,1≤l.length∧l.length≤3∧∀x∈l,x≤2
inductive IntE(c:Ct)(np:Nat):Nat→PE→Prop
 |num (d n:Nat) (h:n<9):IntE c np d ⟨1,nE,n,[]⟩
 |var (d k:Nat) (h:k<c.ints):IntE c np d ⟨5,nm 120 k,0,[]⟩
 |par (d k:Nat) (h:k<np):IntE c np d ⟨5,nm 112 k,0,[]⟩
 |now (d:Nat):IntE c np d ⟨4,nE,0,[]⟩
 |get (d:Nat) (e:PE) (ht:0<c.tables) (h:IntE c np d e):IntE c np (d+1) ⟨6,nT0,0,[e]⟩
 |size (d:Nat) (ht:0<c.tables):IntE c np d ⟨8,nT0,0,[]⟩
 |neg (d:Nat) (e:PE) (h:IntE c np d e):IntE c np (d+1) ⟨9,nE,0,[e]⟩
 |bin (d op:Nat) (a b:PE) (ho:11≤op∧op≤15) (ha:IntE c np d a) (hb:IntE c np d b):IntE c np (d+1) ⟨op,nE,0,[a,b]⟩
inductive TruE(c:Ct)(np:Nat):Nat→PE→Prop
 |tf (d op:Nat) (h:op=2∨op=3):TruE c np d ⟨op,nE,0,[]⟩
 |b0 (d:Nat):TruE c np d ⟨5,nB0,0,[]⟩
 |flag (d k:Nat) (h:k<c.flags):TruE c np d ⟨5,nm 102 k,0,[]⟩
 |has (d:Nat) (e:PE) (ht:0<c.tables) (h:IntE c np 2 e):TruE c np d ⟨7,nT0,0,[e]⟩
 |not (d:Nat) (e:PE) (h:TruE c np d e):TruE c np (d+1) ⟨10,nE,0,[e]⟩
 |two (d op:Nat) (a b:PE) (ho:op=22∨op=23) (ha:TruE c np d a) (hb:TruE c np d b):TruE c np (d+1) ⟨op,nE,0,[a,b]⟩
 |cmp (d op:Nat) (a b:PE) (ho:16≤op∧op≤21) (ha:IntE c np 2 a) (hb:IntE c np 2 b):TruE c np d ⟨op,nE,0,[a,b]⟩
inductive StE(c:Ct)(np:Nat):Nat→PS→Prop
 |setB (d:Nat) (e:PE) (h:TruE c np 2 e):StE c np d ⟨1,nB0,nE,[e],[],[]⟩
 |setX (d k:Nat) (e:PE) (hk:k<c.ints) (h:IntE c np 3 e):StE c np d ⟨1,nm 120 k,nE,[e],[],[]⟩
 |put (d:Nat) (a b:PE) (ht:0<c.tables) (ha:IntE c np 3 a) (hb:IntE c np 3 b):StE c np d ⟨2,nT0,nE,[a,b],[],[]⟩
 |del (d:Nat) (a:PE) (ht:0<c.tables) (ha:IntE c np 3 a):StE c np d ⟨3,nT0,nE,[a],[],[]⟩
 |ife (d:Nat) (e:PE) (t l:List PS) (h:TruE c np 2 e) (ht:∀s∈t,StE c np d s) (hl:∀s∈l,StE c np d s):StE c np (d+1) ⟨4,nE,nE,[e],t,l⟩
 |whl (d:Nat) (e:PE) (t:List PS) (h:TruE c np 2 e) (ht:∀s∈t,StE c np d s):StE c np (d+1) ⟨5,nE,nE,[e],t,[]⟩
 |send (d to h:Nat) (ar:List Nat) (l:List PE) (ha:c.ars[to]?=some ar) (hh:ar[h]?=some l.length) (hl:∀e∈l,IntE c np 2 e):StE c np d ⟨6,nC to,nm 104 h,l,[],[]⟩
 |after (d h:Nat) (ar:List Nat) (e:PE) (l:List PE) (ha:c.ars[c.own]?=some ar) (hh:ar[h]?=some l.length) (he:IntE c np 2 e) (hl:∀e∈l,IntE c np 2 e):StE c np d ⟨7,nE,nm 104 h,e::l,[],[]⟩
 |store (d:Nat) (a b:PE) (l:List PS) (ha:IntE c np 2 a) (hb:IntE c np 2 b) (hl:∀s∈l,StE c np d s):StE c np (d+1) ⟨8,nE,nE,[a,b],[],l⟩
 |fetch (d k:Nat) (e:PE) (l:List PS) (hk:k<c.ints) (h:IntE c np 3 e) (hl:∀s∈l,StE c np d s):StE c np (d+1) ⟨9,nm 120 k,nE,[e],[],l⟩
 |stop (d:Nat):StE c np d ⟨10,nE,nE,[],[],[]⟩
mutual
def PS.cnt:PS→Nat
 |⟨_,_,_,_,t,e⟩=>1+PS.cntL t+PS.cntL e
def PS.cntL:List PS→Nat
 |[]=>0
 |s::r=>PS.cnt s+PS.cntL r
end
theorem PS.cntL_app(l m:List PS):PS.cntL (l++m)=PS.cntL l+PS.cntL m:=by
 induction l with
 |nil=>show _=0+_;rw[Nat.zero_add];rfl
 |cons a r ih=>show PS.cnt a+PS.cntL (r++m)=PS.cnt a+PS.cntL r+_;rw[ih];omega
structure Hd where
 name:ByteArray
 Ap:Option Addr
 qp:Nat
 ps:List ByteArray
 Ab:Option Addr
 qb:Nat
 body:List St
structure Vs where
 A:Option Addr
 q:Nat
 l:List Hd
structure Vr where
 name:ByteArray
 ty:Nat
 init:Int
structure Cm where
 name:ByteArray
 Av:Option Addr
 qv:Nat
 vars:List Vr
 An:Option Addr
 qn:Nat
 vers:List Vs
structure Fg where
 name:ByteArray
 init:Bool
structure Lk where
 src:ByteArray
 dst:ByteArray
 lat:Int
structure Fl where
 name:ByteArray
 Af:Option Addr
 qf:Nat
 flags:List Fg
 Al:Option Addr
 ql:Nat
 links:List Lk
 Ac:Option Addr
 qc:Nat
 comps:List Cm
def encH(e:Hd):List Value:=[.string e.name, .slice e.Ap e.ps.length e.qp, .slice e.Ab e.body.length e.qb]
def encVs(e:Vs):List Value:=[.slice e.A e.l.length e.q]
def encVr(e:Vr):List Value:=[.string e.name,nv e.ty, .int .i64 e.init]
def encVx(e:Vr):List Value:=[.string e.name, .int .u8 ((e.ty:Nat):Int), .int .i64 e.init]
def encC(e:Cm):List Value:=[.string e.name, .slice e.Av e.vars.length e.qv, .slice e.An e.vers.length e.qn]
def encFg(e:Fg):List Value:=[.string e.name, .bool e.init]
def encLk(e:Lk):List Value:=[.string e.src, .string e.dst, .int .i64 e.lat]
def Fl.cells(e:Fl):List Value:=[.string e.name, .slice e.Af e.flags.length e.qf, .slice e.Al e.links.length e.ql, .slice e.Ac e.comps.length e.qc]
instance encH_ok:Enc encH 3:=⟨fun _=>rfl,fun e u hu=>by
 simp only[encH,List.mem_cons,List.not_mem_nil,or_false]at hu
 rcases hu with rfl|rfl|rfl<;>rfl⟩
instance encVs_ok:Enc encVs 1:=⟨fun _=>rfl,fun e u hu=>by
 simp only[encVs,List.mem_cons,List.not_mem_nil,or_false]at hu
 subst hu;rfl⟩
instance encVr_ok:Enc encVr 3:=⟨fun _=>rfl,fun e u hu=>by
 simp only[encVr,List.mem_cons,List.not_mem_nil,or_false]at hu
 rcases hu with rfl|rfl|rfl<;>rfl⟩
instance encVx_ok:Enc encVx 3:=⟨fun _=>rfl,fun e u hu=>by
 simp only[encVx,List.mem_cons,List.not_mem_nil,or_false]at hu
 rcases hu with rfl|rfl|rfl<;>rfl⟩
instance encC_ok:Enc encC 3:=⟨fun _=>rfl,fun e u hu=>by
 simp only[encC,List.mem_cons,List.not_mem_nil,or_false]at hu
 rcases hu with rfl|rfl|rfl<;>rfl⟩
instance encFg_ok:Enc encFg 2:=⟨fun _=>rfl,fun e u hu=>by
 simp only[encFg,List.mem_cons,List.not_mem_nil,or_false]at hu
 rcases hu with rfl|rfl<;>rfl⟩
instance encLk_ok:Enc encLk 3:=⟨fun _=>rfl,fun e u hu=>by
 simp only[encLk,List.mem_cons,List.not_mem_nil,or_false]at hu
 rcases hu with rfl|rfl|rfl<;>rfl⟩
structure Encs where
 f:Ex→List Value
 g:St→List Value
 v:Vr→List Value
def eR:Encs:=⟨encE,encS,encVr⟩
def eX:Encs:=⟨encX,encT,encVx⟩
def Hd.kids(k:Encs)(h:Hd):List Chunk:=ros encZ h.Ap h.ps::ros k.g h.Ab h.body::St.kidsL k.f k.g h.body
def Vs.kids(k:Encs)(v:Vs):List Chunk:=ros encH v.A v.l::v.l.flatMap (Hd.kids k)
def Cm.kids(k:Encs)(c:Cm):List Chunk:=ros k.v c.Av c.vars::ros encVs c.An c.vers::c.vers.flatMap (Vs.kids k)
def Fl.kids(k:Encs)(f:Fl):List Chunk:=ros encFg f.Af f.flags::ros encLk f.Al f.links::ros encC f.Ac f.comps::f.comps.flatMap (Cm.kids k)
theorem Hd.lax(k:Encs)(h:Hd):Lax (h.kids k):=Lax.cons rfl (Lax.cons rfl (St.laxL k.f k.g h.body))
theorem Vs.lax(k:Encs)(v:Vs):Lax (v.kids k):=Lax.cons rfl (Lax.flat fun h _=>h.lax k)
theorem Cm.lax(k:Encs)(v:Cm):Lax (v.kids k):=Lax.cons rfl (Lax.cons rfl (Lax.flat fun h _=>h.lax k))
theorem Fl.lax(k:Encs)(v:Fl):Lax (v.kids k):=Lax.cons rfl (Lax.cons rfl (Lax.cons rfl (Lax.flat fun h _=>h.lax k)))
structure PH where
 name:ByteArray
 ps:List ByteArray
 body:List PS
structure PC where
 name:ByteArray
 vars:List Vr
 vers:List (List PH)
structure PF where
 name:ByteArray
 flags:List Fg
 links:List Lk
 comps:List PC
def Hd.pure(h:Hd):PH:=⟨h.name,h.ps,St.pL h.body⟩
def Vs.pure(v:Vs):List PH:=v.l.map Hd.pure
def Cm.pure(c:Cm):PC:=⟨c.name,c.vars,c.vers.map Vs.pure⟩
def Fl.pure(f:Fl):PF:=⟨f.name,f.flags,f.links,f.comps.map Cm.pure⟩
structure GoodH(c:Ct)(ar:List Nat)(k:Nat)(h:PH):Prop where
 name:h.name=nm 104 k
 ps:∃np,ar[k]?=some np∧h.ps=nms 112 np∧∀s∈h.body,StE c np 3 s
 cnt:PS.cntL h.body≤12
def GoodV(c:Ct)(ar:List Nat)(l:List PH):Prop:=1≤l.length∧l.length≤ar.length∧∀k h,l[k]?=some h→GoodH c ar k h
def varsOf(ints tables:Nat):List Vr:=(List.range ints).map (fun k=>⟨nm 120 k,1,(k:Int)⟩)++[⟨nB0,2,0⟩]++(List.range tables).map (fun _=>⟨nT0,3,0⟩)
structure GoodC(flags:Nat)(ars:List (List Nat))(i:Nat)(c:PC):Prop where
 name:c.name=nC i
 vers:∃ints tables ar,(1≤ints∧ints≤3)∧tables≤1∧ars[i]?=some ar∧c.vars=varsOf ints tables∧(∀v∈c.vers,GoodV ⟨ints,tables,flags,i,ars⟩ ar v)∧(1≤c.vers.length∧c.vers.length≤2)∧∃v∈c.vers,v.length=ar.length
def arsOk(ars:List (List Nat)):Prop:=(1≤ars.length∧ars.length≤3)∧∀l∈ars,1≤l.length∧l.length≤3∧∀x∈l,x≤2
structure GoodF(f:PF):Prop where
 name:f.name=bytesOf [102,108,101,101,116,49]
 flags:f.flags.length≤2∧f.flags.map Fg.name=nms 102 f.flags.length
 links:f.links.length≤9∧(∀x∈f.links,∃i j,i<f.comps.length∧j<f.comps.length∧x.src=nC i∧x.dst=nC j∧1≤x.lat∧x.lat≤3)∧(f.links.map fun x=>(x.src,x.dst)).Nodup
 comps:∃ars,arsOk ars∧f.comps.length=ars.length∧∀i c,f.comps[i]?=some c→GoodC f.flags.length ars i c
end Go.Proofs.YtihgdnjkofpgiaaGreatDoor

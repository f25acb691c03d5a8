/- Merged out of G4, G0, G5 by merge.py. Own text. -/
import Derived.Test.YtihgdnjkofpgiaaGreatDoorGa
import Derived.Test.YtihgdnjkofpgiaaGreatDoorCb
import Derived.Laws.BytesString
set_option linter.unusedVariables false
set_option linter.unusedSimpArgs false
namespace Go.Proofs.YtihgdnjkofpgiaaGreatDoor
open Go.RowKit Go.Flow Go.Mem Go.Sep Go.In
structure Cc where
 pn:ByteArray→Ins
 vs:ByteArray→Int
 ts:ByteArray→Int
 tg:ByteArray→ByteArray→Int×Int
 ah:ByteArray→Int
def opI(c:Cc)(op:Nat)(s:ByteArray)(n:Int):Ins:=
 if op=1 then⟨1,0,0,n⟩else if op=2 then⟨1,0,0,1⟩else if op=3 then⟨1,0,0,0⟩else if op=4 then⟨5,0,0,0⟩else if op=5 then c.pn s
 else if op=6∨op=7∨op=8 then⟨op,c.ts s,0,0⟩else⟨op,0,0,0⟩
mutual
def cE(c:Cc):PE→List Ins
 |⟨op,s,n,l⟩=>cEs c l++[opI c op s n]
def cEs(c:Cc):List PE→List Ins
 |[]=>[]
 |e::r=>cE c e++cEs c r
end
def ovr(p:Nat)(e:List Ins)(b:Bool):List Ins:=if b then []else⟨27,((p+1+e.length:Nat):Int),0,0⟩::e
mutual
def cS(c:Cc):PS→Nat→List Ins
 | ⟨k,s,h,es,t,e⟩,top=>
   let x:=(⟨29,0,0,0⟩:Ins)::cEs c es
   let p:=top+x.length+1
   let j:Nat:=if e.isEmpty then 0 else 1
   x++(if k=1 then [⟨24,c.vs s,0,0⟩]else if k=2 then [⟨25,c.ts s,0,0⟩]else if k=3 then [⟨26,c.ts s,0,0⟩]
    else if k=4 then⟨28,((p+(cB c t p).length+j:Nat):Int),0,0⟩::(cB c t p++ovr (p+(cB c t p).length) (cB c e (p+(cB c t p).length+1)) e.isEmpty)
    else if k=5 then⟨28,((p+(cB c t p).length+1:Nat):Int),0,0⟩::(cB c t p++[⟨27,((top:Nat):Int),0,0⟩])
    else if k=6 then [⟨30,(c.tg s h).1,(c.tg s h).2,((es.length:Nat):Int)⟩]
    else if k=7 then [⟨31,0,c.ah h,((es.length:Nat):Int)-1⟩]
    else if k=8 then⟨32,0,((p+j:Nat):Int),0⟩::ovr p (cB c e (p+1)) e.isEmpty
    else if k=9 then⟨33,c.vs s,((p+j:Nat):Int),0⟩::ovr p (cB c e (p+1)) e.isEmpty
    else if k=10 then [⟨34,0,0,0⟩]else [])
def cB(c:Cc):List PS→Nat→List Ins
 |[],_=>[]
 |s::r,top=>cS c s top++cB c r (top+(cS c s top).length)
end
open Go.RowKit Go.Flow Go.Mem Go.Sep
open Go.RowKit Go.Flow Go.Mem Go.Sep Go.In
structure Cd where
 params:Nat
 B:Option Addr
 q:Nat
 bl:List Nat
structure Pt where
 ints:Nat
 tables:Nat
 Ah:Option Addr
 qh:Nat
 hs:List Cd
 As:Option Addr
 qs:Nat
 sec:List Cd
structure Pl where
 flags:Nat
 Al:Option Addr
 ql:Nat
 links:List Nat
 Ac:Option Addr
 qc:Nat
 comps:List Pt
def encCd(c:Cd):List Value:=[.int .u8 ((c.params:Nat):Int), .slice c.B c.bl.length c.q]
def encPt(c:Pt):List Value:=[.int .u8 ((c.ints:Nat):Int), .int .u8 ((c.tables:Nat):Int), .slice c.Ah c.hs.length c.qh, .slice c.As c.sec.length c.qs]
def Pl.cells(c:Pl):List Value:=[.int .u8 ((c.flags:Nat):Int), .slice c.Al c.links.length c.ql, .slice c.Ac c.comps.length c.qc]
instance encCd_ok:Enc encCd 2:=⟨fun _=>rfl,fun e u hu=>by
 simp only[encCd,List.mem_cons,List.not_mem_nil,or_false]at hu
 rcases hu with rfl|rfl<;>rfl⟩
instance encPt_ok:Enc encPt 4:=⟨fun _=>rfl,fun e u hu=>by
 simp only[encPt,List.mem_cons,List.not_mem_nil,or_false]at hu
 rcases hu with rfl|rfl|rfl|rfl<;>rfl⟩
def Cd.kids(c:Cd):List Chunk:=[ros encY c.B c.bl]
def Pt.kids(c:Pt):List Chunk:=ros encCd c.Ah c.hs::ros encCd c.As c.sec::(c.hs++c.sec).flatMap Cd.kids
def Pl.kids(c:Pl):List Chunk:=ros encY c.Al c.links::ros encPt c.Ac c.comps::c.comps.flatMap Pt.kids
theorem Cd.lax(c:Cd):Lax c.kids:=Lax.cons rfl Lax.nil
theorem Pt.lax(c:Pt):Lax c.kids:=Lax.cons rfl (Lax.cons rfl (Lax.flat fun h _=>h.lax))
theorem Pl.lax(c:Pl):Lax c.kids:=Lax.cons rfl (Lax.cons rfl (Lax.flat fun h _=>h.lax))
def okB(l:List Nat)(q:Nat):Prop:=(∀x∈l,x<256)∧l.length≤q
theorem okB.drop{l:List Nat}{q:Nat}(h:okB l q)(n:Nat):okB (l.drop n) (q-n):=⟨fun x hx=>h.1 x (List.mem_of_mem_drop hx),by rw[List.length_drop];have:=h.2;omega⟩
theorem okB.take{l:List Nat}{q:Nat}(h:okB l q)(n:Nat):okB (l.take n) q:=⟨fun x hx=>h.1 x (List.mem_of_mem_take hx),by rw[List.length_take];have:=h.2;omega⟩
def Cd.Ok(c:Cd):Prop:=c.params<256∧okB c.bl c.q
structure Pt.Ok(c:Pt):Prop where
 ints:c.ints<256
 tables:c.tables<256
 hs:c.hs.length≤c.qh
 sec:c.sec.length≤c.qs
 hk:∀x∈c.hs,x.Ok
 sk:∀x∈c.sec,x.Ok
structure Pl.Ok(c:Pl):Prop where
 flags:c.flags<256
 links:okB c.links c.ql
 comps:c.comps.length≤c.qc
 ck:∀x∈c.comps,x.Ok
structure Ar where
 A:Option Addr
 q:Nat
 l:List Nat
def encN(n:Nat):List Value:=[nv n]
instance encN_ok:Enc encN 1:=⟨fun _=>rfl,fun x u hu=>by simp[encN]at hu;subst hu;rfl⟩
def encAr(c:Ar):List Value:=[.slice c.A c.l.length c.q]
instance encAr_ok:Enc encAr 1:=⟨fun _=>rfl,fun x u hu=>by simp[encAr]at hu;subst hu;rfl⟩
def Ar.kids(a:Ar):List Chunk:=[ros encN a.A a.l]
end Go.Proofs.YtihgdnjkofpgiaaGreatDoor

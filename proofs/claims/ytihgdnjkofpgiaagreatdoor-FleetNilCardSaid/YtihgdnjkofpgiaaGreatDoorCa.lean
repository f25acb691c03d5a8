/- Merged out of C1, C2, C3, C4 by merge.py. Own text. -/
import Derived.Test.YtihgdnjkofpgiaaGreatDoorT
set_option linter.unusedVariables false
set_option linter.unusedSimpArgs false
namespace Go.Proofs.YtihgdnjkofpgiaaGreatDoor
open Go.RowKit Go.Flow Go.Mem Go.Sep
def encI(n:Int):List Value:=[.int .i64 n]
instance encI_ok:Enc encI 1:=⟨fun _=>rfl,fun x u hu=>by simp[encI]at hu;subst hu;rfl⟩
def encB(b:Bool):List Value:=[.bool b]
instance encB_ok:Enc encB 1:=⟨fun _=>rfl,fun x u hu=>by simp[encB]at hu;subst hu;rfl⟩
structure Ins where
 op:Nat
 a:Int
 b:Int
 n:Int
deriving DecidableEq
def Ins.cells(e:Ins):List Value:=[.int .u8 ((e.op:Nat):Int), .int .i64 e.a, .int .i64 e.b, .int .i64 e.n]
instance encIn:Enc Ins.cells 4:=⟨fun _=>rfl,fun e u hu=>by
 simp only[Ins.cells,List.mem_cons,List.not_mem_nil,or_false]at hu
 rcases hu with rfl|rfl|rfl|rfl<;>rfl⟩
def encEn(e:Int×Int):List Value:=[.int .i64 e.1, .int .i64 e.2]
instance encEn_ok:Enc encEn 2:=⟨fun _=>rfl,fun e u hu=>by
 simp only[encEn,List.mem_cons,List.not_mem_nil,or_false]at hu
 rcases hu with rfl|rfl<;>rfl⟩
structure Tb where
 A:Option Addr
 q:Nat
 l:List (Int×Int)
def Tb.cells(e:Tb):List Value:=[.slice e.A e.l.length e.q]
instance encTb:Enc Tb.cells 1:=⟨fun _=>rfl,fun e u hu=>by
 simp only[Tb.cells,List.mem_cons,List.not_mem_nil,or_false]at hu
 subst hu;rfl⟩
def Tb.ar(e:Tb):Option Addr×List (Int×Int):=(e.A,e.l)
structure Ef where
 k:Int
 to:Int
 h:Int
 d:Int
 key:Int
 v:Int
 f:Bool
 A:Option Addr
 q:Nat
 args:List Int
def Ef.cells(e:Ef):List Value:=[.int .u8 e.k, .int .i64 e.to, .int .i64 e.h, .int .i64 e.d, .int .i64 e.key, .int .i64 e.v, .bool e.f, .slice e.A e.args.length e.q]
instance encEf:Enc Ef.cells 8:=⟨fun _=>rfl,fun e u hu=>by
 simp only[Ef.cells,List.mem_cons,List.not_mem_nil,or_false]at hu
 rcases hu with rfl|rfl|rfl|rfl|rfl|rfl|rfl|rfl<;>rfl⟩
def Ef.ar(e:Ef):Option Addr×List Int:=(e.A,e.args)
def tgt(i:Ins):Option Int:=if(i.op:Int)=27∨(i.op:Int)=28 then some i.a else if(i.op:Int)=32∨(i.op:Int)=33 then some i.b else none
structure Rw where
 text:ByteArray
 uses:ByteArray
 pops:Int
 pushes:Int
def Rw.cells(e:Rw):List Value:=[.string e.text, .string e.uses, .int .i64 e.pops, .int .i64 e.pushes]
instance encRw:Enc Rw.cells 4:=⟨fun _=>rfl,fun e u hu=>by
 simp only[Rw.cells,List.mem_cons,List.not_mem_nil,or_false]at hu
 rcases hu with rfl|rfl|rfl|rfl<;>rfl⟩
def rowTab:List Rw:=[⟨⟨#[]⟩,⟨#[]⟩,0,0⟩,⟨⟨#[99,111,110,115,116]⟩,⟨#[78]⟩,0,1⟩,⟨⟨#[118,97,114]⟩,⟨#[65]⟩,0,1⟩,⟨⟨#[112,97,114,97,109]⟩,⟨#[65]⟩,0,1⟩,⟨⟨#[102,108,97,103]⟩,⟨#[65]⟩,0,1⟩,⟨⟨#[110,111,119]⟩,⟨#[]⟩,0,1⟩,⟨⟨#[103,101,116]⟩,⟨#[65]⟩,1,1⟩,⟨⟨#[104,97,115]⟩,⟨#[65]⟩,1,1⟩,⟨⟨#[115,105,122,101]⟩,⟨#[65]⟩,0,1⟩,⟨⟨#[110,101,103]⟩,⟨#[]⟩,1,1⟩,⟨⟨#[110,111,116]⟩,⟨#[]⟩,1,1⟩,⟨⟨#[109,117,108]⟩,⟨#[]⟩,2,1⟩,⟨⟨#[100,105,118]⟩,⟨#[]⟩,2,1⟩,⟨⟨#[109,111,100]⟩,⟨#[]⟩,2,1⟩,⟨⟨#[97,100,100]⟩,⟨#[]⟩,2,1⟩,⟨⟨#[115,117,98]⟩,⟨#[]⟩,2,1⟩,⟨⟨#[101,113]⟩,⟨#[]⟩,2,1⟩,⟨⟨#[110,101]⟩,⟨#[]⟩,2,1⟩,⟨⟨#[108,116]⟩,⟨#[]⟩,2,1⟩,⟨⟨#[108,101]⟩,⟨#[]⟩,2,1⟩,⟨⟨#[103,116]⟩,⟨#[]⟩,2,1⟩,⟨⟨#[103,101]⟩,⟨#[]⟩,2,1⟩,⟨⟨#[97,110,100]⟩,⟨#[]⟩,2,1⟩,⟨⟨#[111,114]⟩,⟨#[]⟩,2,1⟩,⟨⟨#[115,101,116,118,97,114]⟩,⟨#[65]⟩,1,0⟩,⟨⟨#[112,117,116]⟩,⟨#[65]⟩,2,0⟩,⟨⟨#[100,101,108,101,116,101]⟩,⟨#[65]⟩,1,0⟩,⟨⟨#[106,117,109,112]⟩,⟨#[65]⟩,0,0⟩,⟨⟨#[98,114,97,110,99,104]⟩,⟨#[65]⟩,1,0⟩,⟨⟨#[99,111,115,116]⟩,⟨#[]⟩,0,0⟩,⟨⟨#[115,101,110,100]⟩,⟨#[65,66,78]⟩,0,0⟩,⟨⟨#[97,102,116,101,114]⟩,⟨#[66,78]⟩,1,0⟩,⟨⟨#[115,116,111,114,101]⟩,⟨#[66]⟩,2,0⟩,⟨⟨#[102,101,116,99,104]⟩,⟨#[65,66]⟩,1,0⟩,⟨⟨#[115,116,111,112]⟩,⟨#[]⟩,0,0⟩]
def rowOf(o:Nat):Rw:=rowTab.getD o ⟨⟨#[]⟩,⟨#[]⟩,0,0⟩
def usesB(o:Nat)(c:Int):Bool:=decide (0≤Lib.indexByte (rowOf o).uses.data.toList c.toNat.toUInt8)
abbrev tabC:Chunk:=ros Rw.cells (some ⟨0,0,none⟩) rowTab
def formedB(pr:Int)(nc:Nat)(x:Ins):Bool:=
 decide (1≤(x.op:Int))&&decide ((x.op:Int)≤34)&& !(!usesB x.op 65&&decide (x.a≠0))&& !(!usesB x.op 66&&decide (x.b≠0))&& !(!usesB x.op 78&&decide (x.n≠0))&&
 !((tgt x).isSome&&(decide ((tgt x).getD 0<0)||decide (((nc:Nat):Int)<(tgt x).getD 0)))&&
 (if(x.op:Int)=27∨(x.op:Int)=28∨(x.op:Int)=32 then true else if(x.op:Int)=3 then decide (0≤x.a)&&decide (x.a<pr)else
  if((x.op:Int)=30∨(x.op:Int)=31)∧(x.b<0∨63<x.b∨x.n<0∨4<x.n)then false else decide (0≤x.a)&&decide (x.a≤63))
def popsN(x:Ins):Int:=if((x.op:Nat):Int)=30∨((x.op:Nat):Int)=31 then(rowOf x.op).pops+x.n else(rowOf x.op).pops
def okH(y v:Int):Prop:=y<0∨y=v
instance(y v:Int):Decidable (okH y v):=inferInstanceAs (Decidable (_∨_))
def aftH(m:Int)(x:Ins):Int:=m-popsN x+(rowOf x.op).pushes
def nextH(h:List Int)(i:Nat)(x:Ins)(v:Int):Option (List Int):=
 if((x.op:Nat):Int)≠27∧((x.op:Nat):Int)≠34 then(if okH (h.getD (i+1) 0) v then some (h.set (i+1) v)else none)else some h
def jumpH(h:List Int)(x:Ins)(v:Int):Option (List Int):=
 if(tgt x).isSome=true then(if okH (h.getD ((tgt x).getD 0).toNat 0) v then some (h.set ((tgt x).getD 0).toNat v)else none)else some h
def stepH(h:List Int)(top:Int)(i:Nat)(x:Ins):Option (List Int×Int):=
 let m:=max (h.getD i 0) 0
 if m<popsN x∨(((x.op:Nat):Int)=34∧m≠0)then none else
 (nextH (h.set i m) i x (aftH m x)).bind fun h2=>(jumpH h2 x (aftH m x)).map fun h3=>(h3,max (max top m) (aftH m x))
def goH:Nat→List Ins→List Int→Int→Option (List Int×Int)
 |_,[],h,top=>some (h,top)
 |i,x::r,h,top=>(stepH h top i x).bind fun p=>goH (i+1) r p.1 p.2
def heightsV(l:List Ins):Int×Bool:=match goH 0 l (List.replicate (l.length+1) (-1)) 0 with
 |none=>(0,false)
 |some (h,top)=>(top,decide (h.getD l.length 0≤0))
theorem getD_of{l:List Int}{i:Nat}{y:Int}(h:l[i]?=some y):l.getD i 0=y:=by rw[List.getD_eq_getElem?_getD,h];rfl
end Go.Proofs.YtihgdnjkofpgiaaGreatDoor

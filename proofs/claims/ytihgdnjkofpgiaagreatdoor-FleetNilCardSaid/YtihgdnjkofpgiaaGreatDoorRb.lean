/- Merged out of R1, R2a, R2, R3, R4, R5p, R6p, S1p by merge.py. Own text. -/
import Derived.Test.YtihgdnjkofpgiaaGreatDoorKa
import Derived.Test.YtihgdnjkofpgiaaGreatDoorBd
set_option linter.unusedVariables false
set_option linter.unusedSimpArgs false
namespace Go.Proofs.YtihgdnjkofpgiaaGreatDoor
open Go.RowKit Go.Flow Go.Mem Go.Sep Go.In
def fndH(s:ByteArray)(o:Option Hd)(l:List Hd):Option Hd:=l.foldl (fun(o:Option Hd) (h:Hd)=>if h.name=s then some h else o) o
def fndV(s:ByteArray)(o:Option Hd)(l:List Vs):Option Hd:=l.foldl (fun(o:Option Hd) (v:Vs)=>fndH s o v.l) o
theorem fndH_cons(s:ByteArray)(o:Option Hd)(h:Hd)(l:List Hd):fndH s o (h::l)=fndH s (if h.name=s then some h else o) l:=rfl
theorem fndV_cons(s:ByteArray)(o:Option Hd)(h:Vs)(l:List Vs):fndV s o (h::l)=fndV s (fndH s o h.l) l:=rfl
end Go.Proofs.YtihgdnjkofpgiaaGreatDoor
namespace Go.Sep
open Go.RowKit Go.Flow Go.Mem
section
variable{α:Type}{enc:α→List Value}{size:Nat}
end
end Go.Sep
namespace Go.Proofs.YtihgdnjkofpgiaaGreatDoor
open Go.RowKit Go.Flow Go.Mem Go.Sep Go.In
structure BndF(F:Fl):Prop where
 flags:F.flags.length≤100
 comps:F.comps.length≤100
 each:∀c∈F.comps,c.vars.length≤1000∧c.vers.length≤1000∧∀v∈c.vers,v.l.length≤100
section
variable{c:Cc}{s:St}{n top:Nat}
end
section
variable{α:Type}(X Y Z V:List α)(a b j k:α)
end
section
variable{cc:Cc}{t e:List PS}{X Y1 W1 Z1 WF:List Ins}
end
abbrev codeR(F:Fl)(c:Cm)(x:Hd):List Ins:=cB (ccR F.pure c.name c.vars x.ps) (St.pL x.body) 0
structure GoodCode(F:Fl)(c:Cm)(x:Hd):Prop where
 ps:x.ps.length≤2
 len:(codeR F c x).length≤3816
 form:∀i∈codeR F c x,formR ((x.ps.length:Nat):Int) (codeR F c x).length i=true
theorem fndH_mem{s:ByteArray}{x:Hd}:∀{l:List Hd} {o:Option Hd},fndH s o l=some x→o=some x∨x∈l
 |[],o,h=> .inl h
 | a ::r,o,h=>by
   rw[fndH_cons]at h
   rcases fndH_mem h with h|h
   · split at h
     ·cases h;exact .inr (List.mem_cons_self ..)
     ·exact .inl h
   ·exact .inr (List.mem_cons_of_mem _ h)
theorem fndV_mem{s:ByteArray}{x:Hd}:∀{l:List Vs} {o:Option Hd},fndV s o l=some x→o=some x∨∃v∈l,x∈v.l
 |[],o,h=> .inl h
 | a ::r,o,h=>by
   rw[fndV_cons]at h
   rcases fndV_mem h with h|⟨v,hv,hx⟩
   · rcases fndH_mem h with h|h
     ·exact .inl h
     ·exact .inr ⟨a,List.mem_cons_self ..,h⟩
   ·exact .inr ⟨v,List.mem_cons_of_mem _ hv,hx⟩
structure RU where
 ok:Bool
 np:Nat
 st:Int
 l:List Ins
theorem Rd.convW{P:Program}{o:Oper}{ρ:Slots}{Γ:List Chunk}{x:Operand}{s d:TypeId}{k k':IntKind}{m:Int}{ds:TypeDesc}(ho:o.op= .convert s d x)(hx:ev ρ x=some (.int k m))(hs:P.underlying s=some ds)(hd:P.underlying d=some (.int k')):Rd P o ρ Γ (.int k' (k'.wrap m)):=fun a w ha _=>by
 unfold execOp
 simp[ho,ha.eval hx,convert,run_underlying hs,run_underlying hd,Conv.intToInt]
/-- An instruction whose operation is any int. -/
structure Iz where
 o:Int
 a:Int
 b:Int
 n:Int
def eIz(e:Iz):List Value:=[.int .i64 e.o, .int .i64 e.a, .int .i64 e.b, .int .i64 e.n]
instance eIk:Enc eIz 4:=⟨fun _=>rfl,fun e u hu=>by
 simp only[eIz,List.mem_cons,List.not_mem_nil,or_false]at hu
 rcases hu with rfl|rfl|rfl|rfl<;>rfl⟩
def ofI(x:Ins):Iz:=⟨((x.op:Nat):Int),x.a,x.b,x.n⟩
def toI(z:Iz):Ins:=⟨z.o.toNat,z.a,z.b,z.n⟩
theorem toI_ofI(x:Ins):toI (ofI x)=x:=by cases x;rfl
theorem toIs_ofIs(l:List Ins):(l.map ofI).map toI=l:=by
 rw[List.map_map]
 have:toI∘ofI=id:=funext toI_ofI
 rw[this,List.map_id]
theorem ofI_toI{z:Iz}(h:0≤z.o):ofI (toI z)=z:=by
 cases z with
 |mk o a b n=>show(⟨((o.toNat:Nat):Int),a,b,n⟩:Iz)=⟨o,a,b,n⟩;rw[Int.toNat_of_nonneg h]
theorem ofIs_toIs{l:List Iz}(h:∀z∈l,0≤z.o):(l.map toI).map ofI=l:=by
 rw[List.map_map]
 conv=>rhs;rw[←List.map_id l]
 exact List.map_congr_left fun z hz=>ofI_toI (h z hz)
theorem flat_ofI(l:List Ins):(l.map ofI).flatMap eIz=l.flatMap Ins.rc:=by
 rw[List.flatMap_map];rfl
theorem rows_ofI(e:TypeId)(A:Option Addr)(q:Nat)(l:List Ins):rows Ins.rc e 4 A q l=rows eIz e 4 A q (l.map ofI):=by
 show row e 4 A l.length q (l.flatMap Ins.rc)=row e 4 A (l.map ofI).length q ((l.map ofI).flatMap eIz)
 rw[flat_ofI,List.length_map]
end Go.Proofs.YtihgdnjkofpgiaaGreatDoor

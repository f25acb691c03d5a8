/- Own text. -/
import Derived.Test.YtlihklladkagpaaGreatDoorL3
import Derived.Laws.Strings2
import Derived.Laws.Concat
import Derived.Lib.Builder
set_option linter.unusedVariables false
set_option linter.unusedSimpArgs false
namespace Go.In
open Go.RowKit Go.Flow Go.Mem Go.Sep
inductive AV where
 |bool (b:Bool)
 |int (k:IntKind) (n:Int)
 |str (s:List Nat)
 |ptr (i off:Nat)
 |nilp
 |sl (i off len cap:Nat)
 |slu (i off len c d:Nat)
 |nils
 |mp (i:Nat)
 |nilm
 |nilf
 |nili
 |und
 |fn (f:FuncId) (fst cap:List AV)
 |ifc (t:TypeId) (v:AV)
 |agg (l:List AV)
 |tup (l:List AV)
def bl(σ:Nat→Nat)(i:Nat):Nat:=bif Nat.blt i 4096 then i else σ i
def aLy(l:List Nat):ByteArray:=⟨(l.map UInt8.ofNat).toArray⟩
mutual
def val(σ:Nat→Nat):AV→Value
 | .bool b=> .bool b
 | .int k n=> .int k n
 | .str s=> .string (aLy s)
 | .ptr i o=> .pointer (some ⟨bl σ i,o,none⟩)
 | .nilp=> .pointer none
 | .sl i o l c=> .slice (some ⟨bl σ i,o,none⟩) l c
 | .slu i o l c d=> .slice (some ⟨bl σ i,o,none⟩) l (d+σ c)
 | .nils=> .slice none 0 0
 | .mp i=> .map (some (bl σ i))
 | .nilm=> .map none
 | .nilf=> .nilFunc
 | .nili=> .nilIface
 | .und=>undef
 | .fn f fst cap=> .func (.func f) (pV σ fst).toArray (pV σ cap).toArray
 | .ifc t v=> .iface t (val σ v)
 | .agg l=> .agg (pV σ l).toArray
 | .tup l=> .tuple (pV σ l).toArray
def pV(σ:Nat→Nat):List AV→List Value
 |[]=>[]
 |v::l=>val σ v::pV σ l
end
abbrev Qw:=List (Nat×AV)
def ofc:Value→Option AV
 | .bool b=>some (.bool b)
 | .int k n=>some (.int k n)
 | .string s=>some (.str (s.data.toList.map UInt8.toNat))
 | .pointer none=>some .nilp
 | .slice none 0 0=>some .nils
 | .map none=>some .nilm
 | .nilFunc=>some .nilf
 | .nilIface=>some .nili
 |_=>none
def XC:List Value→Option (List AV)
 |[]=>some []
 | u::r=>match ofc u,XC r with
   |some v,some l=>some (v::l)
   |_,_=>none
def back:Value→Option AV
 | .tuple l=>(XC l.toList).map .tup
 | .agg l=>(XC l.toList).map .agg
 |u=>ofc u
def aBh(σ:Nat→Nat)(ρ:Qw):Cb:=ρ.map fun p=>(p.1,val σ p.2)
mutual
def bel(k:Nat):AV→Prop
 | .ptr i _=>i<k
 | .sl i _ _ _=>i<k
 | .slu i _ _ c _=>i<k∧c<k
 | .mp i=>i<k
 | .fn _ fst cap=>ER k fst∧ER k cap
 | .ifc _ v=>bel k v
 | .agg l=>ER k l
 | .tup l=>ER k l
 |_=>True
def ER(k:Nat):List AV→Prop
 |[]=>True
 |v::l=>bel k v∧ER k l
end
def aBi(k:Nat)(ρ:Qw):Prop:=∀p∈ρ,bel k p.2
def one:AV→Bool
 | .agg _=>false
 | .tup _=>false
 | .und=>false
 |_=>true
structure SI where
 e:Nat
 size:Nat
 bytes:Nat
 zs:List AV
section
variable{P:Program}{σ:Nat→Nat}
end
inductive AC where
 |kn (c:Nat)
 |un (c d:Nat)
def cp(σ:Nat→Nat):AC→Nat
 | .kn c=>c
 | .un c d=>d+σ c
inductive MK where
 |box (t:Nat)
 |row (e size n:Nat) (c:AC)
 |ro
 |maps (m:List (List Nat×AV))
structure MC where
 i:Nat
 kd:MK
 cs:List AV
def prs(σ:Nat→Nat)(m:List (List Nat×AV)):List (ByteArray×Value):=m.map fun p=>(aLy p.1,val σ p.2)
def ck(σ:Nat→Nat)(c:MC):Ai:=
 match c.kd with
 | .box t=>Sep.box (bl σ c.i) (pV σ c.cs) t
 | .row e size n cap=>Sep.row e size (some ⟨bl σ c.i,0,none⟩) n (cp σ cap) (pV σ c.cs)
 | .ro=>Sep.ro (some ⟨bl σ c.i,0,none⟩) (pV σ c.cs)
 | .maps m=>Zi (fun b:ByteArray=> .string b) (fun v:Value=>v) (bl σ c.i) (prs σ m)
def mem(σ:Nat→Nat)(M:List MC):List Ai:=M.map (ck σ)
def find:List MC→Nat→Option (Nat×MC)
 |[],_=>none
 | c::r,i=>bif Nat.beq c.i i then some (0,c)else match find r i with
   |some p=>some (p.1+1,p.2)
   |none=>none
theorem tK{i:Nat}:∀{M:List MC} {j:Nat} {c:MC},find M i=some (j,c)→M[j]?=some c∧c.i=i
 |[],_,_,h=>by cases h
 | c ::r,j,d,h=>by
   unfold find at h
   cases hb:Nat.beq c.i i with
   | true=>
     rw[hb]at h;simp only[cond_true,Option.some.injEq,Prod.mk.injEq]at h
     obtain⟨rfl,rfl⟩:=h
     exact⟨rfl,aFz hb⟩
   | false=>
     rw[hb]at h;simp only[cond_false]at h
     split at h
     · rename_i p hf
       simp only[Option.some.injEq,Prod.mk.injEq]at h
       obtain⟨rfl,rfl⟩:=h
       exact tK (M:=r) hf
     ·cases h
theorem Ou{σ:Nat→Nat}{M:List MC}{i j:Nat}{c:MC}(h:find M i=some (j,c)):(mem σ M)[j]?=some (ck σ c):=by
 unfold mem;rw[aEp,(tK h).1];rfl
def aDj(k:Nat):AC→Prop
 | .kn _=>True
 | .un c _=>c<k
def aDk(k:Nat):MK→Prop
 | .row _ _ _ c=>aDj k c
 | .maps m=>∀p∈m,bel k p.2
 |_=>True
structure aBj(k:Nat)(c:MC):Prop where
 pl:c.i<k
 kd:aDk k c.kd
 cs:ER k c.cs
def RL(k:Nat)(M:List MC):Prop:=∀c∈M,aBj k c
def z0:Nat→Nat:=fun _=>0
section
variable{P:Program}{o:Oper}{ρ:Qw}{Γ:List Ai}{σ:Nat→Nat}{v:AV}{k:Nat}
end
def AZ:List Nat→List Nat→Bool
 |[],[]=>true
 |a::x,b::y=>bif Nat.beq (a%256) (b%256)then AZ x y else false
 |_,_=>false
section
variable{P:Program}{o:Oper}{ρ:Qw}{Γ:List Ai}{σ:Nat→Nat}{v:AV}{k:Nat}
theorem ES(a b:Nat):(UInt8.ofNat a==UInt8.ofNat b)=Nat.beq (a%256) (b%256):=by
 rw[Bool.eq_iff_iff,beq_iff_eq,Nat.beq_eq]
 constructor
 ·intro h;have:=congrArg UInt8.toNat h;simpa using this
 ·intro h;apply UInt8.toNat_inj.1;simpa using h
theorem tL:∀a b:List Nat,((a.map UInt8.ofNat)==(b.map UInt8.ofNat))=AZ a b
 |[],[]=>rfl
 |[],_::_=>rfl
 |_::_,[]=>rfl
 | a::x,b::y=>by
   show(UInt8.ofNat a==UInt8.ofNat b&&(x.map UInt8.ofNat)==(y.map UInt8.ofNat))=_
   rw[ES,tL x y]
   show _=(bif Nat.beq (a%256) (b%256)then AZ x y else false)
   cases Nat.beq (a%256) (b%256)<;>simp
theorem aC(a:List Nat):(aLy a).toList=a.map UInt8.ofNat:=by unfold aLy;exact ByteArray.toList_mk _
theorem Qc(a:List Nat):(aLy a).size=a.length:=by unfold aLy;simp[ByteArray.size]
theorem ET(a b:List Nat):aLy a++aLy b=aLy (a++b):=by unfold aLy;rw[ByteArray.mk_append_mk,aEq]
theorem Xq(a:List Nat)(l h:Nat):(aLy a).extract l h=aLy ((a.drop l).take (h-l)):=by unfold aLy;rw[ByteArray.extract_mk,List.map_take,List.map_drop]
end
def fieldV(P:Program)(t:TypeId)(f:Nat):Option (Nat×Nat):=
 match P.underlying t with
 | some (.struct fs)=>match fs[f]? with
   |some fd=>some (fd.offset,fd.type)
   |none=>none
 |_=>none
section
variable{P:Program}{o:Oper}{ρ:Qw}{Γ:List Ai}{σ:Nat→Nat}{v:AV}{k:Nat}
end
section
variable{P:Program}{o:Oper}{ρ:Qw}{Γ:List Ai}{σ:Nat→Nat}{v:AV}{k:Nat}{x y z:Operand}{ρs:Cb}{t:TypeId}
theorem KV{s:List Nat}{lo hi:Option Operand}{a b:Nat}(ho:o.op= .slice t x lo hi none)(ht:P.underlying t=some .string)(hx:ev ρs x=some (.string (aLy s)))
    (h1:match lo with|none=>a=0|some y=>∃k,ev ρs y=some (.int k (a:Int))) (h2:match hi with|none=>b=s.length|some y=>∃k,ev ρs y=some (.int k (b:Int))) (h3:a≤b) (h4:b≤s.length):Rd P o ρs Γ (.string (aLy ((s.drop a).take (b-a)))):=fun ac w ha _=>by
 unfold execOp
 rw[←Xq]
 cases lo with
 | none=>
   simp only at h1;subst h1
   cases hi with
   |none=>simp only at h2;subst h2;simp[ho,ha.eval hx,Instr.sliceAt,run_underlying ht,Instr.slice,Instr.sliceBounds,Qc];rw[Xq];simp
   | some y=>
     obtain⟨k,hy⟩:=h2
     simp[ho,ha.eval hx,ha.eval hy,Instr.sliceAt,run_underlying ht,Instr.slice,Instr.sliceBounds,Instr.sliceBound,asIntOf,Qc,h4]
 | some z=>
   obtain⟨k',hz⟩:=h1
   cases hi with
   |none=>simp only at h2;subst h2;simp[ho,ha.eval hx,ha.eval hz,Instr.sliceAt,run_underlying ht,Instr.slice,Instr.sliceBounds,Instr.sliceBound,asIntOf,Qc,h3]
   | some y=>
     obtain⟨k,hy⟩:=h2
     simp[ho,ha.eval hx,ha.eval hy,ha.eval hz,Instr.sliceAt,run_underlying ht,Instr.slice,Instr.sliceBounds,Instr.sliceBound,asIntOf,Qc,h4,h3]
end
inductive Res where
 |val (v:AV)
 |up (M:List MC)
 |mk (v:AV) (N:List MC) (k:Nat)
 |ge (v:AV) (M:List MC) (k:Nat)
def Sup(k:Nat)(σ σ':Nat→Nat):Prop:=∀i,i<k→σ i=σ' i
def XD(k:Nat)(σ:Nat→Nat)(v:AV)(M:List MC)(u:Value)(Γ:List Ai):Prop:=∃σ',Sup k σ σ'∧u=val σ' v∧Γ=mem σ' M
section
variable{P:Program}{o:Oper}{ρ:Qw}{M M':List MC}{σ:Nat→Nat}{v:AV}{k:Nat}
theorem bytes_beq(a b:ByteArray):(a==b)=decide (a=b):=by
 obtain⟨x⟩:=a
 obtain⟨y⟩:=b
 show(x==y)=_
 rw[Bool.eq_iff_iff,beq_iff_eq,aFm]
 constructor
 ·intro h;rw[h]
 ·intro h;exact congrArg ByteArray.data h
theorem Xo.str{K:TypeId}(h:P.underlying K=some .string):Xo P K (fun b:ByteArray=> .string b) where
 same a b w:=by
  show(Op.equalIn (9999+1) K (.string a) (.string b)).run P w=_
  rw[run_equalIn_string (w:=w) 9999 K a b h]
  congr 1
  rw[ByteArray.toList_eq,ByteArray.toList_eq,Bool.eq_iff_iff,beq_iff_eq,aFm]
  constructor
  ·intro h;exact ByteArray.ext (Array.toList_inj.1 h)
  ·intro h;rw[h]
 now d hd:=by
  rw[h]at hd
  obtain rfl:=aEn hd
  refine .inr fun a b=>?_
  simp only[Instr.sameNow]
  congr 1
  rw[bytes_beq]
 und:=⟨_,h⟩
 check e a w:=by
  show(Instr.checkKey e (9999+1) K (.string a)).run P w=_
  unfold Instr.checkKey
  simp[run_underlying h]
 bits a:=by show Instr.sameBits 10000 (.string a) (.string a)=true;simp[Instr.sameBits,bytes_beq]
theorem Vx{a b:List Nat}:aLy a=aLy b↔AZ a b=true:=by
 rw[←tL,beq_iff_eq,←aC,←aC]
 constructor
 ·intro h;rw[h]
 · intro h
   rw[ByteArray.toList_eq,ByteArray.toList_eq]at h
   exact ByteArray.ext (Array.toList_inj.1 h)
end
end Go.In

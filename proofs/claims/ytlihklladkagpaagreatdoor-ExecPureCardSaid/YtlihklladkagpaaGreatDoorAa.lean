/- Own text. -/
import Derived.Test.YtlihklladkagpaaGreatDoorL3
import Derived.Laws.Strings2
import Derived.Laws.Concat
import Derived.Lib.Builder
set_option linter.unusedVariables false
set_option linter.unusedSimpArgs false
namespace Go.In
open Go.RowKit Go.Flow Go.Mem Go.Sep
inductive AV where
 |bool (b:Bool)
 |int (k:IntKind) (n:Int)
 |str (s:List Nat)
 |ptr (i off:Nat)
 |nilp
 |sl (i off len cap:Nat)
 |slu (i off len c d:Nat)
 |nils
 |mp (i:Nat)
 |nilm
 |nilf
 |nili
 |und
 |fn (f:FuncId) (fst cap:List AV)
 |ifc (t:TypeId) (v:AV)
 |agg (l:List AV)
 |tup (l:List AV)
def bl(σ:Nat→Nat)(i:Nat):Nat:=bif Nat.blt i 4096 then i else σ i
def bytesOf(l:List Nat):ByteArray:=⟨(l.map UInt8.ofNat).toArray⟩
mutual
def val(σ:Nat→Nat):AV→Value
 | .bool b=> .bool b
 | .int k n=> .int k n
 | .str s=> .string (bytesOf s)
 | .ptr i o=> .pointer (some ⟨bl σ i,o,none⟩)
 | .nilp=> .pointer none
 | .sl i o l c=> .slice (some ⟨bl σ i,o,none⟩) l c
 | .slu i o l c d=> .slice (some ⟨bl σ i,o,none⟩) l (d+σ c)
 | .nils=> .slice none 0 0
 | .mp i=> .map (some (bl σ i))
 | .nilm=> .map none
 | .nilf=> .nilFunc
 | .nili=> .nilIface
 | .und=>undef
 | .fn f fst cap=> .func (.func f) (vals σ fst).toArray (vals σ cap).toArray
 | .ifc t v=> .iface t (val σ v)
 | .agg l=> .agg (vals σ l).toArray
 | .tup l=> .tuple (vals σ l).toArray
def vals(σ:Nat→Nat):List AV→List Value
 |[]=>[]
 |v::l=>val σ v::vals σ l
end
abbrev ASlots:=List (Nat×AV)
def ofc:Value→Option AV
 | .bool b=>some (.bool b)
 | .int k n=>some (.int k n)
 | .string s=>some (.str (s.data.toList.map UInt8.toNat))
 | .pointer none=>some .nilp
 | .slice none 0 0=>some .nils
 | .map none=>some .nilm
 | .nilFunc=>some .nilf
 | .nilIface=>some .nili
 |_=>none
def ofcs:List Value→Option (List AV)
 |[]=>some []
 | u::r=>match ofc u,ofcs r with
   |some v,some l=>some (v::l)
   |_,_=>none
def back:Value→Option AV
 | .tuple l=>(ofcs l.toList).map .tup
 | .agg l=>(ofcs l.toList).map .agg
 |u=>ofc u
def inst(σ:Nat→Nat)(ρ:ASlots):Slots:=ρ.map fun p=>(p.1,val σ p.2)
mutual
def bel(k:Nat):AV→Prop
 | .ptr i _=>i<k
 | .sl i _ _ _=>i<k
 | .slu i _ _ c _=>i<k∧c<k
 | .mp i=>i<k
 | .fn _ fst cap=>bels k fst∧bels k cap
 | .ifc _ v=>bel k v
 | .agg l=>bels k l
 | .tup l=>bels k l
 |_=>True
def bels(k:Nat):List AV→Prop
 |[]=>True
 |v::l=>bel k v∧bels k l
end
def belS(k:Nat)(ρ:ASlots):Prop:=∀p∈ρ,bel k p.2
def one:AV→Bool
 | .agg _=>false
 | .tup _=>false
 | .und=>false
 |_=>true
structure SI where
 e:Nat
 size:Nat
 bytes:Nat
 zs:List AV
section
variable{P:Program}{σ:Nat→Nat}
end
inductive AC where
 |kn (c:Nat)
 |un (c d:Nat)
def cp(σ:Nat→Nat):AC→Nat
 | .kn c=>c
 | .un c d=>d+σ c
inductive MK where
 |box (t:Nat)
 |row (e size n:Nat) (c:AC)
 |ro
 |maps (m:List (List Nat×AV))
structure MC where
 i:Nat
 kd:MK
 cs:List AV
def prs(σ:Nat→Nat)(m:List (List Nat×AV)):List (ByteArray×Value):=m.map fun p=>(bytesOf p.1,val σ p.2)
def ck(σ:Nat→Nat)(c:MC):Chunk:=
 match c.kd with
 | .box t=>Sep.box (bl σ c.i) (vals σ c.cs) t
 | .row e size n cap=>Sep.row e size (some ⟨bl σ c.i,0,none⟩) n (cp σ cap) (vals σ c.cs)
 | .ro=>Sep.ro (some ⟨bl σ c.i,0,none⟩) (vals σ c.cs)
 | .maps m=>mapc (fun b:ByteArray=> .string b) (fun v:Value=>v) (bl σ c.i) (prs σ m)
def mem(σ:Nat→Nat)(M:List MC):List Chunk:=M.map (ck σ)
def find:List MC→Nat→Option (Nat×MC)
 |[],_=>none
 | c::r,i=>bif Nat.beq c.i i then some (0,c)else match find r i with
   |some p=>some (p.1+1,p.2)
   |none=>none
theorem find_get{i:Nat}:∀{M:List MC} {j:Nat} {c:MC},find M i=some (j,c)→M[j]?=some c∧c.i=i
 |[],_,_,h=>by cases h
 | c ::r,j,d,h=>by
   unfold find at h
   cases hb:Nat.beq c.i i with
   | true=>
     rw[hb]at h;simp only[cond_true,Option.some.injEq,Prod.mk.injEq]at h
     obtain⟨rfl,rfl⟩:=h
     exact⟨rfl,Nat.eq_of_beq_eq_true hb⟩
   | false=>
     rw[hb]at h;simp only[cond_false]at h
     split at h
     · rename_i p hf
       simp only[Option.some.injEq,Prod.mk.injEq]at h
       obtain⟨rfl,rfl⟩:=h
       exact find_get (M:=r) hf
     ·cases h
theorem mem_at{σ:Nat→Nat}{M:List MC}{i j:Nat}{c:MC}(h:find M i=some (j,c)):(mem σ M)[j]?=some (ck σ c):=by
 unfold mem;rw[List.getElem?_map,(find_get h).1];rfl
def belC(k:Nat):AC→Prop
 | .kn _=>True
 | .un c _=>c<k
def belK(k:Nat):MK→Prop
 | .row _ _ _ c=>belC k c
 | .maps m=>∀p∈m,bel k p.2
 |_=>True
structure belMC(k:Nat)(c:MC):Prop where
 pl:c.i<k
 kd:belK k c.kd
 cs:bels k c.cs
def belM(k:Nat)(M:List MC):Prop:=∀c∈M,belMC k c
def z0:Nat→Nat:=fun _=>0
section
variable{P:Program}{o:Oper}{ρ:ASlots}{Γ:List Chunk}{σ:Nat→Nat}{v:AV}{k:Nat}
end
def eqStr:List Nat→List Nat→Bool
 |[],[]=>true
 |a::x,b::y=>bif Nat.beq (a%256) (b%256)then eqStr x y else false
 |_,_=>false
section
variable{P:Program}{o:Oper}{ρ:ASlots}{Γ:List Chunk}{σ:Nat→Nat}{v:AV}{k:Nat}
theorem ofNat_beq(a b:Nat):(UInt8.ofNat a==UInt8.ofNat b)=Nat.beq (a%256) (b%256):=by
 rw[Bool.eq_iff_iff,beq_iff_eq,Nat.beq_eq]
 constructor
 ·intro h;have:=congrArg UInt8.toNat h;simpa using this
 ·intro h;apply UInt8.toNat_inj.1;simpa using h
theorem eqStr_ok:∀a b:List Nat,((a.map UInt8.ofNat)==(b.map UInt8.ofNat))=eqStr a b
 |[],[]=>rfl
 |[],_::_=>rfl
 |_::_,[]=>rfl
 | a::x,b::y=>by
   show(UInt8.ofNat a==UInt8.ofNat b&&(x.map UInt8.ofNat)==(y.map UInt8.ofNat))=_
   rw[ofNat_beq,eqStr_ok x y]
   show _=(bif Nat.beq (a%256) (b%256)then eqStr x y else false)
   cases Nat.beq (a%256) (b%256)<;>simp
theorem bytes_toList(a:List Nat):(bytesOf a).toList=a.map UInt8.ofNat:=by unfold bytesOf;exact ByteArray.toList_mk _
theorem bytes_size(a:List Nat):(bytesOf a).size=a.length:=by unfold bytesOf;simp[ByteArray.size]
theorem bytes_add(a b:List Nat):bytesOf a++bytesOf b=bytesOf (a++b):=by unfold bytesOf;rw[ByteArray.mk_append_mk,List.map_append]
theorem bytes_extract(a:List Nat)(l h:Nat):(bytesOf a).extract l h=bytesOf ((a.drop l).take (h-l)):=by unfold bytesOf;rw[ByteArray.extract_mk,List.map_take,List.map_drop]
end
def fieldV(P:Program)(t:TypeId)(f:Nat):Option (Nat×Nat):=
 match P.underlying t with
 | some (.struct fs)=>match fs[f]? with
   |some fd=>some (fd.offset,fd.type)
   |none=>none
 |_=>none
section
variable{P:Program}{o:Oper}{ρ:ASlots}{Γ:List Chunk}{σ:Nat→Nat}{v:AV}{k:Nat}
end
section
variable{P:Program}{o:Oper}{ρ:ASlots}{Γ:List Chunk}{σ:Nat→Nat}{v:AV}{k:Nat}{x y z:Operand}{ρs:Slots}{t:TypeId}
theorem Rd.strSl{s:List Nat}{lo hi:Option Operand}{a b:Nat}(ho:o.op= .slice t x lo hi none)(ht:P.underlying t=some .string)(hx:ev ρs x=some (.string (bytesOf s)))
    (h1:match lo with|none=>a=0|some y=>∃k,ev ρs y=some (.int k (a:Int))) (h2:match hi with|none=>b=s.length|some y=>∃k,ev ρs y=some (.int k (b:Int))) (h3:a≤b) (h4:b≤s.length):Rd P o ρs Γ (.string (bytesOf ((s.drop a).take (b-a)))):=fun ac w ha _=>by
 unfold execOp
 rw[←bytes_extract]
 cases lo with
 | none=>
   simp only at h1;subst h1
   cases hi with
   |none=>simp only at h2;subst h2;simp[ho,ha.eval hx,Instr.sliceAt,run_underlying ht,Instr.slice,Instr.sliceBounds,bytes_size];rw[bytes_extract];simp
   | some y=>
     obtain⟨k,hy⟩:=h2
     simp[ho,ha.eval hx,ha.eval hy,Instr.sliceAt,run_underlying ht,Instr.slice,Instr.sliceBounds,Instr.sliceBound,asIntOf,bytes_size,h4]
 | some z=>
   obtain⟨k',hz⟩:=h1
   cases hi with
   |none=>simp only at h2;subst h2;simp[ho,ha.eval hx,ha.eval hz,Instr.sliceAt,run_underlying ht,Instr.slice,Instr.sliceBounds,Instr.sliceBound,asIntOf,bytes_size,h3]
   | some y=>
     obtain⟨k,hy⟩:=h2
     simp[ho,ha.eval hx,ha.eval hy,ha.eval hz,Instr.sliceAt,run_underlying ht,Instr.slice,Instr.sliceBounds,Instr.sliceBound,asIntOf,bytes_size,h4,h3]
end
inductive Res where
 |val (v:AV)
 |up (M:List MC)
 |mk (v:AV) (N:List MC) (k:Nat)
 |ge (v:AV) (M:List MC) (k:Nat)
def Sup(k:Nat)(σ σ':Nat→Nat):Prop:=∀i,i<k→σ i=σ' i
def Outs(k:Nat)(σ:Nat→Nat)(v:AV)(M:List MC)(u:Value)(Γ:List Chunk):Prop:=∃σ',Sup k σ σ'∧u=val σ' v∧Γ=mem σ' M
section
variable{P:Program}{o:Oper}{ρ:ASlots}{M M':List MC}{σ:Nat→Nat}{v:AV}{k:Nat}
theorem bytes_beq(a b:ByteArray):(a==b)=decide (a=b):=by
 obtain⟨x⟩:=a
 obtain⟨y⟩:=b
 show(x==y)=_
 rw[Bool.eq_iff_iff,beq_iff_eq,decide_eq_true_eq]
 constructor
 ·intro h;rw[h]
 ·intro h;exact congrArg ByteArray.data h
theorem KeyTy.str{K:TypeId}(h:P.underlying K=some .string):KeyTy P K (fun b:ByteArray=> .string b) where
 same a b w:=by
  show(Op.equalIn (9999+1) K (.string a) (.string b)).run P w=_
  rw[run_equalIn_string (w:=w) 9999 K a b h]
  congr 1
  rw[ByteArray.toList_eq,ByteArray.toList_eq,Bool.eq_iff_iff,beq_iff_eq,decide_eq_true_eq]
  constructor
  ·intro h;exact ByteArray.ext (Array.toList_inj.1 h)
  ·intro h;rw[h]
 now d hd:=by
  rw[h]at hd
  obtain rfl:=Option.some.inj hd
  refine .inr fun a b=>?_
  simp only[Instr.sameNow]
  congr 1
  rw[bytes_beq]
 und:=⟨_,h⟩
 check e a w:=by
  show(Instr.checkKey e (9999+1) K (.string a)).run P w=_
  unfold Instr.checkKey
  simp[run_underlying h]
 bits a:=by show Instr.sameBits 10000 (.string a) (.string a)=true;simp[Instr.sameBits,bytes_beq]
theorem bytesOf_inj{a b:List Nat}:bytesOf a=bytesOf b↔eqStr a b=true:=by
 rw[←eqStr_ok,beq_iff_eq,←bytes_toList,←bytes_toList]
 constructor
 ·intro h;rw[h]
 · intro h
   rw[ByteArray.toList_eq,ByteArray.toList_eq]at h
   exact ByteArray.ext (Array.toList_inj.1 h)
end
end Go.In

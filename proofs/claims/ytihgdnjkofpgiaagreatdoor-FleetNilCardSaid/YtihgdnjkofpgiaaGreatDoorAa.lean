/- Merged out of A1, A2, A3, A4, A5, A6, A7 by merge.py. Own text. -/
import Derived.Test.YtihgdnjkofpgiaaGreatDoorL3
import Derived.Laws.Strings2
import Derived.Laws.Concat
import Derived.Lib.Builder
set_option linter.unusedVariables false
set_option linter.unusedSimpArgs false
namespace Go.In
open Go.RowKit Go.Flow Go.Mem Go.Sep
inductive AV where
 |bool (b:Bool)
 |int (k:IntKind) (n:Int)
 |str (s:List Nat)
 |ptr (i off:Nat)
 |nilp
 |sl (i off len cap:Nat)
 |slu (i off len c d:Nat)
 |nils
 |mp (i:Nat)
 |nilm
 |nilf
 |nili
 |und
 |fn (f:FuncId) (fst cap:List AV)
 |ifc (t:TypeId) (v:AV)
 |agg (l:List AV)
 |tup (l:List AV)
def bl(σ:Nat→Nat)(i:Nat):Nat:=bif Nat.blt i 4096 then i else σ i
def bytesOf(l:List Nat):ByteArray:=⟨(l.map UInt8.ofNat).toArray⟩
mutual
def val(σ:Nat→Nat):AV→Value
 | .bool b=> .bool b
 | .int k n=> .int k n
 | .str s=> .string (bytesOf s)
 | .ptr i o=> .pointer (some ⟨bl σ i,o,none⟩)
 | .nilp=> .pointer none
 | .sl i o l c=> .slice (some ⟨bl σ i,o,none⟩) l c
 | .slu i o l c d=> .slice (some ⟨bl σ i,o,none⟩) l (d+σ c)
 | .nils=> .slice none 0 0
 | .mp i=> .map (some (bl σ i))
 | .nilm=> .map none
 | .nilf=> .nilFunc
 | .nili=> .nilIface
 | .und=>undef
 | .fn f fst cap=> .func (.func f) (vals σ fst).toArray (vals σ cap).toArray
 | .ifc t v=> .iface t (val σ v)
 | .agg l=> .agg (vals σ l).toArray
 | .tup l=> .tuple (vals σ l).toArray
def vals(σ:Nat→Nat):List AV→List Value
 |[]=>[]
 |v::l=>val σ v::vals σ l
end
abbrev ASlots:=List (Nat×AV)
def alook:ASlots→Nat→Option AV
 |[],_=>none
 |(k,v)::r,t=>bif Nat.beq k t then some v else alook r t
def ofc:Value→Option AV
 | .bool b=>some (.bool b)
 | .int k n=>some (.int k n)
 | .string s=>some (.str (s.data.toList.map UInt8.toNat))
 | .pointer none=>some .nilp
 | .slice none 0 0=>some .nils
 | .map none=>some .nilm
 | .nilFunc=>some .nilf
 | .nilIface=>some .nili
 |_=>none
def ofcs:List Value→Option (List AV)
 |[]=>some []
 | u::r=>match ofc u,ofcs r with
   |some v,some l=>some (v::l)
   |_,_=>none
def back:Value→Option AV
 | .tuple l=>(ofcs l.toList).map .tup
 | .agg l=>(ofcs l.toList).map .agg
 |u=>ofc u
def aev(ρ:ASlots):Operand→Option AV
 | .tmp t=>alook ρ t
 | .const v=>back v
 | .global g=>bif Nat.blt g 4096 then some (.ptr g 0)else none
 | .func f=>some (.fn f [] [])
def aevs(ρ:ASlots):List Operand→Option (List AV)
 |[]=>some []
 | x::r=>match aev ρ x,aevs ρ r with
   |some v,some l=>some (v::l)
   |_,_=>none
def inst(σ:Nat→Nat)(ρ:ASlots):Slots:=ρ.map fun p=>(p.1,val σ p.2)
theorem vals_map(σ:Nat→Nat):∀l:List AV,vals σ l=l.map (val σ)
 |[]=>by simp only[vals,List.map_nil]
 |v::l=>by simp only[vals,List.map_cons,vals_map σ l]
theorem look_inst(σ:Nat→Nat):∀{ρ:ASlots} {t:Nat} {v:AV},alook ρ t=some v→Sep.look (inst σ ρ) t=some (val σ v)
 |[],_,_,h=>by simp[alook]at h
 | (k,u)::r,t,v,h=>by
   unfold alook at h
   show(bif Nat.beq k t then some (val σ u)else Sep.look (inst σ r) t)=_
   cases hb:Nat.beq k t with
   |true=>rw[hb]at h;simp only[cond_true,Option.some.injEq]at h⊢;rw[h]
   |false=>rw[hb]at h;simp only[cond_false]at h⊢;exact look_inst σ h
theorem bytes_back(s:ByteArray):bytesOf (s.data.toList.map UInt8.toNat)=s:=by
 obtain⟨⟨l⟩⟩:=s
 unfold bytesOf
 simp[List.map_map,Function.comp_def]
theorem ofc_val{σ:Nat→Nat}{u:Value}{v:AV}(h:ofc u=some v):u=val σ v:=by
 unfold ofc at h
 split at h<;>first|(simp only[Option.some.injEq]at h;subst h;simp[val,bytes_back])|cases h
theorem ofcs_val{σ:Nat→Nat}:∀{us:List Value} {l:List AV},ofcs us=some l→us=vals σ l
 |[],l,h=>by simp only[ofcs,Option.some.injEq]at h;subst h;rfl
 | u ::r,l,h=>by
   unfold ofcs at h
   split at h
   · rename_i v l' h1 h2
     simp only[Option.some.injEq]at h;subst h
     simp only[vals,←ofc_val (σ:=σ) h1,←ofcs_val (σ:=σ) h2]
   ·cases h
theorem back_val{u:Value}{v:AV}(h:back u=some v)(σ:Nat→Nat):u=val σ v:=by
 unfold back at h
 split at h
 · rename_i l
   obtain⟨l',h1,rfl⟩:=Option.map_eq_some_iff.1 h
   simp only[val,←ofcs_val (σ:=σ) h1]
 · rename_i l
   obtain⟨l',h1,rfl⟩:=Option.map_eq_some_iff.1 h
   simp only[val,←ofcs_val (σ:=σ) h1]
 ·exact ofc_val h
theorem ev_inst{σ:Nat→Nat}{ρ:ASlots}{x:Operand}{v:AV}(h:aev ρ x=some v):ev (inst σ ρ) x=some (val σ v):=by
 cases x with
 |tmp t=>exact look_inst σ h
 |const u=>exact congrArg some (back_val h σ)
 | global g=>
   have h:(bif Nat.blt g 4096 then some (AV.ptr g 0)else none)=some v:=h
   cases hb:Nat.blt g 4096 with
   |false=>rw[hb]at h;cases h
   |true=>rw[hb]at h;simp only[cond_true,Option.some.injEq]at h;subst h;simp only[ev,val,bl,hb,cond_true]
 |func f=>simp only[aev,Option.some.injEq]at h;subst h;simp[ev,val,vals]
theorem evs_inst{σ:Nat→Nat}{ρ:ASlots}:∀{xs:List Operand} {l:List AV},aevs ρ xs=some l→evs (inst σ ρ) xs=some (vals σ l)
 |[],l,h=>by simp only[aevs,Option.some.injEq]at h;subst h;simp[evs,vals]
 | x ::r,l,h=>by
   unfold aevs at h
   split at h
   · rename_i v l' h1 h2
     simp only[Option.some.injEq]at h;subst h
     simp only[evs,ev_inst (σ:=σ) h1,evs_inst (σ:=σ) h2,vals]
   ·cases h
mutual
def bel(k:Nat):AV→Prop
 | .ptr i _=>i<k
 | .sl i _ _ _=>i<k
 | .slu i _ _ c _=>i<k∧c<k
 | .mp i=>i<k
 | .fn _ fst cap=>bels k fst∧bels k cap
 | .ifc _ v=>bel k v
 | .agg l=>bels k l
 | .tup l=>bels k l
 |_=>True
def bels(k:Nat):List AV→Prop
 |[]=>True
 |v::l=>bel k v∧bels k l
end
theorem bels_iff{k:Nat}:∀{l:List AV},bels k l↔ ∀v∈l,bel k v
 |[]=>by simp[bels]
 |v::l=>by simp only[bels,List.mem_cons,forall_eq_or_imp,bels_iff (l:=l)]
theorem bl_ext{k:Nat}{σ σ':Nat→Nat}(he:∀i,i<k→σ i=σ' i){i:Nat}(h:i<k):bl σ i=bl σ' i:=by unfold bl;rw[he i h]
mutual
theorem val_ext{k:Nat}{σ σ':Nat→Nat}(he:∀i,i<k→σ i=σ' i):∀v:AV,bel k v→val σ v=val σ' v
 | .ptr i _,h=>by simp only[bel]at h;simp only[val,bl_ext he h]
 | .sl i _ _ _,h=>by simp only[bel]at h;simp only[val,bl_ext he h]
 | .slu i _ _ c _,h=>by simp only[bel]at h;simp only[val,bl_ext he h.1,he c h.2]
 | .mp i,h=>by simp only[bel]at h;simp only[val,bl_ext he h]
 | .fn _ fst cap,h=>by simp only[bel]at h;simp only[val,vals_ext he fst h.1,vals_ext he cap h.2]
 | .ifc _ v,h=>by simp only[bel]at h;simp only[val,val_ext he v h]
 | .agg l,h=>by simp only[bel]at h;simp only[val,vals_ext he l h]
 | .tup l,h=>by simp only[bel]at h;simp only[val,vals_ext he l h]
 | .bool _,_=>by simp only[val]
 | .int _ _,_=>by simp only[val]
 | .str _,_=>by simp only[val]
 | .nilp,_=>by simp only[val]
 | .nils,_=>by simp only[val]
 | .nilm,_=>by simp only[val]
 | .nilf,_=>by simp only[val]
 | .nili,_=>by simp only[val]
 | .und,_=>by simp only[val]
theorem vals_ext{k:Nat}{σ σ':Nat→Nat}(he:∀i,i<k→σ i=σ' i):∀l:List AV,bels k l→vals σ l=vals σ' l
 |[],_=>by simp only[vals]
 |v::l,h=>by simp only[bels]at h;simp only[vals,val_ext he v h.1,vals_ext he l h.2]
end
mutual
theorem bel_up{k k':Nat}(hk:k≤k'):∀v:AV,bel k v→bel k' v
 | .ptr i _,h=>by simp only[bel]at h⊢;omega
 | .sl i _ _ _,h=>by simp only[bel]at h⊢;omega
 | .slu i _ _ _ _,h=>by simp only[bel]at h⊢;omega
 | .mp i,h=>by simp only[bel]at h⊢;omega
 | .fn _ fst cap,h=>by simp only[bel]at h⊢;exact⟨bels_up hk fst h.1,bels_up hk cap h.2⟩
 | .ifc _ v,h=>by simp only[bel]at h⊢;exact bel_up hk v h
 | .agg l,h=>by simp only[bel]at h⊢;exact bels_up hk l h
 | .tup l,h=>by simp only[bel]at h⊢;exact bels_up hk l h
 | .bool _,_=>by simp only[bel]
 | .int _ _,_=>by simp only[bel]
 | .str _,_=>by simp only[bel]
 | .nilp,_=>by simp only[bel]
 | .nils,_=>by simp only[bel]
 | .nilm,_=>by simp only[bel]
 | .nilf,_=>by simp only[bel]
 | .nili,_=>by simp only[bel]
 | .und,_=>by simp only[bel]
theorem bels_up{k k':Nat}(hk:k≤k'):∀l:List AV,bels k l→bels k' l
 |[],_=>by simp only[bels]
 |v::l,h=>by simp only[bels]at h⊢;exact⟨bel_up hk v h.1,bels_up hk l h.2⟩
end
def belS(k:Nat)(ρ:ASlots):Prop:=∀p∈ρ,bel k p.2
theorem inst_ext{k:Nat}{σ σ':Nat→Nat}(he:∀i,i<k→σ i=σ' i){ρ:ASlots}(h:belS k ρ):inst σ ρ=inst σ' ρ:=by
 unfold inst
 exact List.map_congr_left fun p hp=>by rw[val_ext he p.2 (h p hp)]
theorem bel_look{k:Nat}:∀{ρ:ASlots} {t:Nat} {v:AV},belS k ρ→alook ρ t=some v→bel k v
 |[],_,_,_,h=>by simp[alook]at h
 | (i,u)::r,t,v,hb,h=>by
   unfold alook at h
   cases hi:Nat.beq i t with
   |true=>rw[hi]at h;simp only[cond_true,Option.some.injEq]at h;subst h;exact hb _ (List.mem_cons_self ..)
   |false=>rw[hi]at h;simp only[cond_false]at h;exact bel_look (fun p hp=>hb p (List.mem_cons_of_mem _ hp)) h
theorem bel_ofc{k:Nat}{u:Value}{v:AV}(h:ofc u=some v):bel k v:=by
 unfold ofc at h
 split at h<;>first|(simp only[Option.some.injEq]at h;subst h;simp[bel])|cases h
theorem bels_ofcs{k:Nat}:∀{us:List Value} {l:List AV},ofcs us=some l→bels k l
 |[],l,h=>by simp only[ofcs,Option.some.injEq]at h;subst h;simp[bels]
 | u ::r,l,h=>by
   unfold ofcs at h
   split at h
   · rename_i v l' h1 h2
     simp only[Option.some.injEq]at h;subst h
     simp only[bels]
     exact⟨bel_ofc h1,bels_ofcs h2⟩
   ·cases h
theorem bel_back{u:Value}{v:AV}{k:Nat}(h:back u=some v):bel k v:=by
 unfold back at h
 split at h
 · obtain⟨l',h1,rfl⟩:=Option.map_eq_some_iff.1 h
   simp only[bel];exact bels_ofcs h1
 · obtain⟨l',h1,rfl⟩:=Option.map_eq_some_iff.1 h
   simp only[bel];exact bels_ofcs h1
 ·exact bel_ofc h
theorem bel_aev{k:Nat}(hk:4096≤k){ρ:ASlots}{x:Operand}{v:AV}(hb:belS k ρ)(h:aev ρ x=some v):bel k v:=by
 cases x with
 |tmp t=>exact bel_look hb h
 |const u=>exact bel_back h
 | global g=>
   have h':(bif Nat.blt g 4096 then some (AV.ptr g 0)else none)=some v:=h
   cases hg:Nat.blt g 4096 with
   |false=>rw[hg]at h';cases h'
   | true=>
     rw[hg]at h';simp only[cond_true,Option.some.injEq]at h';subst h'
     simp only[bel]
     exact Nat.lt_of_lt_of_le (Nat.le_of_ble_eq_true hg) hk
 |func f=>simp only[aev,Option.some.injEq]at h;subst h;simp[bel,bels]
theorem bel_aevs{k:Nat}(hk:4096≤k){ρ:ASlots}(hb:belS k ρ):∀{xs:List Operand} {l:List AV},aevs ρ xs=some l→bels k l
 |[],l,h=>by simp only[aevs,Option.some.injEq]at h;subst h;simp[bels]
 | x ::r,l,h=>by
   unfold aevs at h
   split at h
   · rename_i v l' h1 h2
     simp only[Option.some.injEq]at h;subst h
     simp only[bels]
     exact⟨bel_aev hk hb h1,bel_aevs hk hb h2⟩
   ·cases h
def one:AV→Bool
 | .agg _=>false
 | .tup _=>false
 | .und=>false
 |_=>true
theorem one_val(σ:Nat→Nat){v:AV}(h:one v=true):(val σ v).oneCell'=true:=by
 cases v<;>first|(simp only[val];rfl)|(exact Bool.noConfusion h)
def rowN(P:Program)(ty:TypeId):Option Nat:=
 match P.underlying ty with
 |some d=>bif d.isRow then(P.info? ty).map (·.size)else none
 |none=>none
def cellB(P:Program)(ty:TypeId):Bool:=
 match P.underlying ty with
 | some d=>bif d.isRow then false else match P.info? ty with
   |some i=>Nat.beq i.size 1
   |none=>false
 |none=>false
def zerosA(P:Program)(ty:TypeId):Option (List AV):=
 match P.info? ty with
 | some i=>match i.zero with
   |some z=>ofcs z.cells.toList
   |none=>none
 |none=>none
def fieldA(P:Program)(s:TypeId)(f:Nat):Option Nat:=
 match P.underlying s with
 | some (.struct fs)=>match fs[f]? with
   | some fd=>match P.info? fd.type with
     |some i=>bif Nat.blt 0 i.size then some fd.offset else none
     |none=>none
   |none=>none
 |_=>none
structure SI where
 e:Nat
 size:Nat
 bytes:Nat
 zs:List AV
def sliceI(P:Program)(t:TypeId):Option SI:=
 match P.underlying t with
 | some (.slice e)=>match P.info? e with
   | some i=>match i.zero with
     | some z=>match ofcs z.cells.toList with
       |some zs=>bif Nat.beq zs.length i.size&&Nat.blt 0 i.size&&zs.all one then some ⟨e,i.size,i.bytes,zs⟩else none
       |none=>none
     |none=>none
   |none=>none
 |_=>none
def arrA(P:Program)(t:TypeId):Option (Nat×Nat×Nat):=
 match P.underlying t with
 |some (.array n e)=>(P.info? e).map fun i=>(n,e,i.size)
 |_=>none
section
variable{P:Program}{σ:Nat→Nat}
theorem rowN_ok{ty:TypeId}{n:Nat}(h:rowN P ty=some n):RowTy P ty n:=by
 unfold rowN at h
 split at h
 · rename_i d hd
   cases hr:d.isRow with
   |true=>rw[hr]at h;exact RowTy.of hd hr h
   |false=>rw[hr]at h;cases h
 ·cases h
theorem cellB_ok{ty:TypeId}(h:cellB P ty=true):CellTy P ty:=by
 unfold cellB at h
 split at h
 · rename_i d hd
   cases hr:d.isRow with
   |true=>rw[hr]at h;cases h
   | false=>
     rw[hr]at h;simp only[cond_false]at h
     split at h
     ·rename_i i hi;exact CellTy.of hd hr (by rw[hi];exact congrArg some (Nat.eq_of_beq_eq_true h))
     ·cases h
 ·cases h
theorem zerosA_ok{ty:TypeId}{zs:List AV}(h:zerosA P ty=some zs)(σ:Nat→Nat):ZeroTy P ty (vals σ zs):=by
 unfold zerosA at h
 split at h
 · rename_i i hi
   split at h
   · rename_i z hz
     refine⟨?_⟩
     rw[hi,←ofcs_val (σ:=σ) h]
     simp[hz]
   ·cases h
 ·cases h
theorem bels_zerosA{ty:TypeId}{zs:List AV}{k:Nat}(h:zerosA P ty=some zs):bels k zs:=by
 unfold zerosA at h
 split at h
 · split at h
   ·exact bels_ofcs h
   ·cases h
 ·cases h
theorem fieldA_ok{s:TypeId}{f k:Nat}(h:fieldA P s f=some k):FieldTy P s f k:=by
 unfold fieldA at h
 split at h
 · rename_i fs hs
   split at h
   · rename_i fd hf
     split at h
     · rename_i i hi
       cases hb:Nat.blt 0 i.size with
       |false=>rw[hb]at h;cases h
       |true=>rw[hb]at h;cases h;exact⟨fs,fd,i,hs,hf,rfl,hi,Nat.le_of_ble_eq_true hb⟩
     ·cases h
   ·cases h
 ·cases h
theorem sliceI_ok{t:TypeId}{s:SI}(h:sliceI P t=some s)(σ:Nat→Nat):SliceTy P t s.e s.size s.bytes (vals σ s.zs):=by
 unfold sliceI at h
 split at h
 · rename_i e ht
   split at h
   · rename_i i hi
     split at h
     · rename_i z hz
       split at h
       · rename_i zs hzs
         cases hb:(Nat.beq zs.length i.size&&Nat.blt 0 i.size&&zs.all one)with
         |false=>rw[hb]at h;cases h
         | true=>
           rw[hb]at h;cases h
           simp only[Bool.and_eq_true]at hb
           obtain⟨⟨h1,h2⟩,h3⟩:=hb
           refine⟨ht,⟨i,z,hi,hz,rfl,rfl,?_⟩,?_,Nat.le_of_ble_eq_true h2,?_⟩
           ·rw[←ofcs_val (σ:=σ) hzs]
           ·rw[vals_map,List.length_map];exact Nat.eq_of_beq_eq_true h1
           · intro u hu
             rw[vals_map]at hu
             obtain⟨v,hv,rfl⟩:=List.mem_map.1 hu
             exact one_val σ (List.all_eq_true.1 h3 v hv)
       ·cases h
     ·cases h
   ·cases h
 ·cases h
theorem bels_sliceI{t:TypeId}{s:SI}{k:Nat}(h:sliceI P t=some s):bels k s.zs:=by
 unfold sliceI at h
 split at h
 · split at h
   · split at h
     · split at h
       · rename_i zs hzs
         cases hb:(Nat.beq zs.length _&&Nat.blt 0 _&&zs.all one)with
         |false=>rw[hb]at h;cases h
         |true=>rw[hb]at h;cases h;exact bels_ofcs hzs
       ·cases h
     ·cases h
   ·cases h
 ·cases h
theorem arrA_ok{t:TypeId}{n e size:Nat}(h:arrA P t=some (n,e,size)):P.underlying t=some (.array n e)∧(P.info? e).map (·.size)=some size:=by
 unfold arrA at h
 split at h
 · rename_i n' e' ht
   cases hi:P.info? e' with
   |none=>rw[hi]at h;cases h
   |some i=>rw[hi]at h;cases h;exact⟨ht,by rw[hi];rfl⟩
 ·cases h
end
inductive AC where
 |kn (c:Nat)
 |un (c d:Nat)
def cp(σ:Nat→Nat):AC→Nat
 | .kn c=>c
 | .un c d=>d+σ c
inductive MK where
 |box (t:Nat)
 |row (e size n:Nat) (c:AC)
 |ro
 |maps (m:List (List Nat×AV))
structure MC where
 i:Nat
 kd:MK
 cs:List AV
def prs(σ:Nat→Nat)(m:List (List Nat×AV)):List (ByteArray×Value):=m.map fun p=>(bytesOf p.1,val σ p.2)
def ck(σ:Nat→Nat)(c:MC):Chunk:=
 match c.kd with
 | .box t=>Sep.box (bl σ c.i) (vals σ c.cs) t
 | .row e size n cap=>Sep.row e size (some ⟨bl σ c.i,0,none⟩) n (cp σ cap) (vals σ c.cs)
 | .ro=>Sep.ro (some ⟨bl σ c.i,0,none⟩) (vals σ c.cs)
 | .maps m=>mapc (fun b:ByteArray=> .string b) (fun v:Value=>v) (bl σ c.i) (prs σ m)
def mem(σ:Nat→Nat)(M:List MC):List Chunk:=M.map (ck σ)
def find:List MC→Nat→Option (Nat×MC)
 |[],_=>none
 | c::r,i=>bif Nat.beq c.i i then some (0,c)else match find r i with
   |some p=>some (p.1+1,p.2)
   |none=>none
theorem find_get{i:Nat}:∀{M:List MC} {j:Nat} {c:MC},find M i=some (j,c)→M[j]?=some c∧c.i=i
 |[],_,_,h=>by cases h
 | c ::r,j,d,h=>by
   unfold find at h
   cases hb:Nat.beq c.i i with
   | true=>
     rw[hb]at h;simp only[cond_true,Option.some.injEq,Prod.mk.injEq]at h
     obtain⟨rfl,rfl⟩:=h
     exact⟨rfl,Nat.eq_of_beq_eq_true hb⟩
   | false=>
     rw[hb]at h;simp only[cond_false]at h
     split at h
     · rename_i p hf
       simp only[Option.some.injEq,Prod.mk.injEq]at h
       obtain⟨rfl,rfl⟩:=h
       exact find_get (M:=r) hf
     ·cases h
theorem find_mem{M:List MC}{i j:Nat}{c:MC}(h:find M i=some (j,c)):c∈M:=mog (find_get h).1
theorem mem_at{σ:Nat→Nat}{M:List MC}{i j:Nat}{c:MC}(h:find M i=some (j,c)):(mem σ M)[j]?=some (ck σ c):=by
 unfold mem;rw[List.getElem?_map,(find_get h).1];rfl
theorem mem_set{σ:Nat→Nat}{M:List MC}{j:Nat}{c:MC}:mem σ (M.set j c)=(mem σ M).set j (ck σ c):=by unfold mem;rw[List.map_set]
def belC(k:Nat):AC→Prop
 | .kn _=>True
 | .un c _=>c<k
def belK(k:Nat):MK→Prop
 | .row _ _ _ c=>belC k c
 | .maps m=>∀p∈m,bel k p.2
 |_=>True
structure belMC(k:Nat)(c:MC):Prop where
 pl:c.i<k
 kd:belK k c.kd
 cs:bels k c.cs
def belM(k:Nat)(M:List MC):Prop:=∀c∈M,belMC k c
theorem ck_ext{k:Nat}{σ σ':Nat→Nat}(he:∀i,i<k→σ i=σ' i){c:MC}(h:belMC k c):ck σ c=ck σ' c:=by
 obtain⟨i,kd,cs⟩:=c
 obtain⟨h1,h2,h3⟩:=h
 simp only at h1 h2 h3
 unfold ck
 cases kd with
 |box t=>simp only[bl_ext he h1,vals_ext he cs h3]
 | row e size n c=>
   have:cp σ c=cp σ' c:=by
    cases c with
    |kn c=>rfl
    |un c d=>simp only[belK,belC]at h2;simp only[cp,he c h2]
   simp only[bl_ext he h1,vals_ext he cs h3,this]
 |ro=>simp only[bl_ext he h1,vals_ext he cs h3]
 | maps m=>
   have:prs σ m=prs σ' m:=by
    unfold prs
    exact List.map_congr_left fun p hp=>by rw[val_ext he p.2 (h2 p hp)]
   simp only[bl_ext he h1,this]
theorem mem_ext{k:Nat}{σ σ':Nat→Nat}(he:∀i,i<k→σ i=σ' i){M:List MC}(h:belM k M):mem σ M=mem σ' M:=by
 unfold mem
 exact List.map_congr_left fun c hc=>ck_ext he (h c hc)
theorem belMC_up{k k':Nat}(hk:k≤k'){c:MC}(h:belMC k c):belMC k' c:=by
 obtain⟨i,kd,cs⟩:=c
 obtain⟨h1,h2,h3⟩:=h
 refine⟨Nat.lt_of_lt_of_le h1 hk,?_,bels_up hk _ h3⟩
 cases kd with
 |box t=>trivial
 |ro=>trivial
 | row e size n c=>
   cases c with
   |kn c=>trivial
   |un c d=>exact Nat.lt_of_lt_of_le h2 hk
 |maps m=>exact fun p hp=>bel_up hk _ (h2 p hp)
theorem belM_up{k k':Nat}(hk:k≤k'){M:List MC}(h:belM k M):belM k' M:=fun c hc=>belMC_up hk (h c hc)
theorem belM_set{k:Nat}{M:List MC}{j:Nat}{c:MC}(hM:belM k M)(hc:belMC k c):belM k (M.set j c):=by
 intro d hd
 rcases List.mem_or_eq_of_mem_set hd with h|h
 ·exact hM d h
 ·rw[h];exact hc
theorem belM_append{k:Nat}{M N:List MC}(h1:belM k M)(h2:belM k N):belM k (M++N):=fun c hc=>(List.mem_append.1 hc).elim (h1 c) (h2 c)
theorem belM_cons{k:Nat}{c:MC}{M:List MC}(h1:belMC k c)(h2:belM k M):belM k (c::M):=fun d hd=>by
 rcases List.mem_cons.1 hd with rfl|hd
 ·exact h1
 ·exact h2 d hd
def cellsM(c:MC):Option (List AV):=
 match c.kd with
 | .maps _=>none
 |_=>some c.cs
def subA(xs:List AV)(o n:Nat):List AV:=(xs.drop o).take n
theorem vals_sub{σ:Nat→Nat}{xs:List AV}{o n:Nat}:vals σ (subA xs o n)=sub (vals σ xs) o n:=by
 unfold subA sub;rw[vals_map,vals_map,List.map_take,List.map_drop]
theorem vals_len{σ:Nat→Nat}{xs:List AV}:(vals σ xs).length=xs.length:=by rw[vals_map,List.length_map]
theorem ck_gives{σ:Nat→Nat}{c:MC}{cs:List AV}(h:cellsM c=some cs)(o n:Nat):(ck σ c).gives (bl σ c.i) o (vals σ (subA cs o n)):=by
 obtain⟨i,kd,cs'⟩:=c
 rw[vals_sub]
 unfold cellsM at h
 unfold ck
 cases kd with
 |box t=>cases h;exact box_gives (n:=n) rfl
 | row e size m c=>
   cases h
   have:=row_gives (e:=e) (size:=size) (A:=some ⟨bl σ i,0,none⟩) (n:=m) (cap:=cp σ c) (o:=o) (k:=n) (xs:=vals σ cs') rfl
   simpa only[blk,ofs,Option.getD_some,Nat.zero_add]using this
 | ro=>
   cases h
   have:=ro_gives (A:=some ⟨bl σ i,0,none⟩) (o:=o) (k:=n) (xs:=vals σ cs') rfl
   simpa only[blk,ofs,Option.getD_some,Nat.zero_add]using this
 |maps m=>cases h
theorem subA_len{xs:List AV}{o n:Nat}(h:Nat.ble (o+n) xs.length=true):(subA xs o n).length=n:=by
 have:=Nat.le_of_ble_eq_true h
 unfold subA;rw[List.length_take,List.length_drop];omega
theorem bels_sub{k:Nat}{xs:List AV}{o n:Nat}(h:bels k xs):bels k (subA xs o n):=by
 rw[bels_iff]at h⊢
 exact fun z hz=>h z (List.mem_of_mem_drop (List.mem_of_mem_take hz))
def overA(cs:List AV)(o:Nat)(us:List AV):List AV:=cs.take o++us++cs.drop (o+us.length)
theorem vals_over{σ:Nat→Nat}{cs us:List AV}{q:Nat}:vals σ (overA cs q us)=over (vals σ cs) q (vals σ us):=by
 unfold overA over;simp only[vals_map,List.map_append,List.map_take,List.map_drop,List.length_map]
theorem bels_over{k:Nat}{cs us:List AV}{q:Nat}(h:bels k cs)(h':bels k us):bels k (overA cs q us):=by
 rw[bels_iff]at h h'⊢
 intro z hz
 unfold overA at hz
 rcases List.mem_append.1 hz with hz|hz
 · rcases List.mem_append.1 hz with hz|hz
   ·exact h z (List.mem_of_mem_take hz)
   ·exact h' z hz
 ·exact h z (List.mem_of_mem_drop hz)
def putM(c:MC)(o:Nat)(us:List AV):Option MC:=
 match c.kd with
 | .box _=>bif Nat.ble (o+us.length) c.cs.length then some ⟨c.i,c.kd,overA c.cs o us⟩else none
 | .row _ size n _=>bif Nat.ble (o+us.length) (n*size)&& !us.isEmpty then some ⟨c.i,c.kd,overA c.cs o us⟩else none
 |_=>none
theorem putM_ok{σ:Nat→Nat}{c c':MC}{o:Nat}{us:List AV}(h:putM c o us=some c'):(ck σ c).takes (bl σ c.i) o (vals σ us) (ck σ c'):=by
 obtain⟨i,kd,cs⟩:=c
 unfold putM at h
 cases kd with
 | box t=>
   simp only at h
   cases hb:Nat.ble (o+us.length) cs.length with
   |false=>rw[hb]at h;cases h
   | true=>
     rw[hb]at h;cases h
     unfold ck
     simp only[vals_over]
     exact box_takes (by rw[vals_len,vals_len];exact hb) rfl
 | row e size n cap=>
   simp only at h
   cases hb:(Nat.ble (o+us.length) (n*size)&& !us.isEmpty)with
   |false=>rw[hb]at h;cases h
   | true=>
     rw[hb]at h;cases h
     rw[Bool.and_eq_true]at hb
     unfold ck
     simp only[vals_over]
     have:=row_takes (e:=e) (size:=size) (A:=some ⟨bl σ i,0,none⟩) (n:=n) (cap:=cp σ cap) (off:=o) (xs:=vals σ cs) (us:=vals σ us) (by rw[vals_len];exact Nat.le_of_ble_eq_true hb.1) (by
      intro h0
      have:=congrArg List.length h0
      rw[vals_len]at this
      have h1:=hb.2
      cases us with
      |nil=>cases h1
      |cons u us=>cases this) rfl
     simpa only[blk,ofs,Option.getD_some,Nat.zero_add]using this
 |ro=>cases h
 |maps m=>cases h
theorem putM_bel{k:Nat}{c c':MC}{o:Nat}{us:List AV}(h:putM c o us=some c')(hc:belMC k c)(hu:bels k us):belMC k c'∧c'.i=c.i:=by
 obtain⟨i,kd,cs⟩:=c
 unfold putM at h
 cases kd with
 | box t=>
   simp only at h
   cases hb:Nat.ble (o+us.length) cs.length with
   |false=>rw[hb]at h;cases h
   |true=>rw[hb]at h;cases h;exact⟨⟨hc.pl,hc.kd,bels_over hc.cs hu⟩,rfl⟩
 | row e size n cap=>
   simp only at h
   cases hb:(Nat.ble (o+us.length) (n*size)&& !us.isEmpty)with
   |false=>rw[hb]at h;cases h
   |true=>rw[hb]at h;cases h;exact⟨⟨hc.pl,hc.kd,bels_over hc.cs hu⟩,rfl⟩
 |ro=>cases h
 |maps m=>cases h
mutual
def gnd:AV→Bool
 | .ptr _ _=>false
 | .sl _ _ _ _=>false
 | .slu _ _ _ _ _=>false
 | .mp _=>false
 | .fn _ a b=>gnds a&&gnds b
 | .ifc _ v=>gnd v
 | .agg l=>gnds l
 | .tup l=>gnds l
 |_=>true
def gnds:List AV→Bool
 |[]=>true
 |v::l=>gnd v&&gnds l
end
mutual
theorem gnd_bel:∀(v:AV),gnd v=true→bel 0 v
 | .ptr _ _,h=>by simp[gnd]at h
 | .sl _ _ _ _,h=>by simp[gnd]at h
 | .slu _ _ _ _ _,h=>by simp[gnd]at h
 | .mp _,h=>by simp[gnd]at h
 | .fn _ a b,h=>by simp only[gnd,Bool.and_eq_true]at h;simp only[bel];exact⟨gnds_bel a h.1,gnds_bel b h.2⟩
 | .ifc _ v,h=>by simp only[gnd]at h;simp only[bel];exact gnd_bel v h
 | .agg l,h=>by simp only[gnd]at h;simp only[bel];exact gnds_bel l h
 | .tup l,h=>by simp only[gnd]at h;simp only[bel];exact gnds_bel l h
 | .bool _,_=>by simp only[bel]
 | .int _ _,_=>by simp only[bel]
 | .str _,_=>by simp only[bel]
 | .nilp,_=>by simp only[bel]
 | .nils,_=>by simp only[bel]
 | .nilm,_=>by simp only[bel]
 | .nilf,_=>by simp only[bel]
 | .nili,_=>by simp only[bel]
 | .und,_=>by simp only[bel]
theorem gnds_bel:∀(l:List AV),gnds l=true→bels 0 l
 |[],_=>by simp only[bels]
 |v::l,h=>by simp only[gnds,Bool.and_eq_true]at h;simp only[bels];exact⟨gnd_bel v h.1,gnds_bel l h.2⟩
end
def z0:Nat→Nat:=fun _=>0
theorem gnd_val{v:AV}(h:gnd v=true)(σ:Nat→Nat):val σ v=val z0 v:=val_ext (k:=0) (fun _ hi=>absurd hi (Nat.not_lt_zero _)) v (gnd_bel v h)
def valS{α:Type}(P:Program):Nat→Sem α→Option α
 |0,_=>none
 |_+1, .pure v=>some v
 |n+1, .program k=>valS P n (k P)
 |n+1, .mark _ k=>valS P n k
 |_+1,_=>none
theorem valS_run{α:Type}{P:Program}:∀{n:Nat} {x:Sem α} {v:α},valS P n x=some v→∀w,x.run P w= .ok v w
 |0,_,_,h,_=>by cases h
 |n+1, .pure u,v,h,w=>by simp only[valS,Option.some.injEq]at h;subst h;rfl
 |n+1, .program k,v,h,w=>by simp only[valS]at h;exact valS_run h w
 |n+1, .mark m k,v,h,w=>by simp only[valS]at h;exact valS_run h w
 |n+1, .load _ _ _,v,h,w=>by cases h
 |n+1, .store _ _ _ _,v,h,w=>by cases h
 |n+1, .new _ _,v,h,w=>by cases h
 |n+1, .shape _ _,v,h,w=>by cases h
 |n+1, .freeze _ _ _,v,h,w=>by cases h
 |n+1, .frozen _ _,v,h,w=>by cases h
 |n+1, .getObj _ _,v,h,w=>by cases h
 |n+1, .setObj _ _ _,v,h,w=>by cases h
 |n+1, .choose _ _,v,h,w=>by cases h
 |n+1, .sys _ _,v,h,w=>by cases h
 |n+1, .halt _,v,h,w=>by cases h
def vNext:Next→Option AV
 | .value v=>back v
 |_=>none
def gev(ρ:ASlots)(x:Operand):Option Value:=
 match aev ρ x with
 |some v=>bif gnd v then some (val z0 v)else none
 |none=>none
def gevs(ρ:ASlots):List Operand→Option (List Value)
 |[]=>some []
 | x::r=>match gev ρ x,gevs ρ r with
   |some v,some l=>some (v::l)
   |_,_=>none
theorem gev_ev{ρ:ASlots}{x:Operand}{v:Value}(h:gev ρ x=some v)(σ:Nat→Nat):ev (inst σ ρ) x=some v:=by
 unfold gev at h
 split at h
 · rename_i u hu
   cases hg:gnd u with
   |false=>rw[hg]at h;cases h
   |true=>rw[hg]at h;cases h;rw[ev_inst (σ:=σ) hu,gnd_val hg]
 ·cases h
theorem gevs_evs{ρ:ASlots}(σ:Nat→Nat):∀{xs:List Operand} {l:List Value},gevs ρ xs=some l→evs (inst σ ρ) xs=some l
 |[],l,h=>by simp only[gevs,Option.some.injEq]at h;subst h;rfl
 | x ::r,l,h=>by
   unfold gevs at h
   split at h
   · rename_i v l' h1 h2
     simp only[Option.some.injEq]at h;subst h
     simp only[evs,gev_ev h1 σ,gevs_evs σ h2]
   ·cases h
def semA(P:Program)(ρ:ASlots)(ty:TypeId):Op→Option AV
 | .binOp op t x y _=>match gev ρ x,gev ρ y with
   |some u,some v=>(valS P 99 (do eqGuard op t x y u v;binOp op t u v:Sem Value)).bind back
   |_,_=>none
 | .unOp op _ x=>match gev ρ x with
   |some u=>(valS P 99 (Op.unary op u)).bind back
   |none=>none
 | .convert s d x=>match gev ρ x with
   |some u=>(valS P 99 (convert s d u)).bind back
   |none=>none
 | .call c=>match c.callee with
   | .builtin b=>match gevs ρ c.args.toList with
     |some us=>(valS P 99 (builtin b c.argTypes ty (c.args.map fun| .const _=>true|_=>false) us.toArray)).bind vNext
     |none=>none
   | .value (.func f)=>match gevs ρ c.args.toList with
     |some us=>(valS P 999 (callFunc f us.toArray)).bind vNext
     |none=>none
   |_=>none
 |_=>none
section
variable{P:Program}{o:Oper}{ρ:ASlots}{Γ:List Chunk}{σ:Nat→Nat}{v:AV}{k:Nat}
theorem semA_rd(h:semA P ρ o.type o.op=some v):Rd P o (inst σ ρ) Γ (val σ v):=by
 generalize ho:o.op=op at h
 unfold semA at h
 split at h
 · split at h
   · rename_i u u' hx hy
     obtain⟨r,h1,h2⟩:=Option.bind_eq_some_iff.1 h
     rw[←back_val h2 σ]
     exact Rd.bin ho (gev_ev hx σ) (gev_ev hy σ) (valS_run h1)
   ·cases h
 · split at h
   · rename_i u hx
     obtain⟨r,h1,h2⟩:=Option.bind_eq_some_iff.1 h
     rw[←back_val h2 σ]
     exact fun a w ha _=>by unfold execOp;simp[ho,ha.eval (gev_ev hx σ),valS_run h1]
   ·cases h
 · split at h
   · rename_i u hx
     obtain⟨r,h1,h2⟩:=Option.bind_eq_some_iff.1 h
     rw[←back_val h2 σ]
     exact fun a w ha _=>by unfold execOp;simp[ho,ha.eval (gev_ev hx σ),valS_run h1]
   ·cases h
 · rename_i c
   obtain⟨cl,as,ts⟩:=c
   have key:∀{us:List Value},gevs ρ as.toList=some us→∀a,Sees (inst σ ρ) a→as.map a.eval=us.toArray:=fun hu a ha=>by
    have:=ha.evals (gevs_evs σ hu)
    rw[←Array.toList_inj];simpa using this
   have key2:∀{n:Next},vNext n=some v→n= .value (val σ v):=fun{n} hn=>by
    unfold vNext at hn
    split at hn
    ·rw[back_val hn σ]
    ·cases hn
   split at h
   · rename_i b hc
     simp only at hc;subst hc
     split at h
     · rename_i us hu
       obtain⟨r,h1,h2⟩:=Option.bind_eq_some_iff.1 h
       have:=key2 h2;subst this
       exact fun a w ha _=>by unfold execOp;simp only[ho,resolve,invoke,key hu a ha,Sem.run_bind,Sem.run_pure,Result.andThen_ok];exact valS_run h1 w
     ·cases h
   · rename_i f hc
     simp only at hc;subst hc
     split at h
     · rename_i us hu
       obtain⟨r,h1,h2⟩:=Option.bind_eq_some_iff.1 h
       have:=key2 h2;subst this
       exact fun a w ha _=>by
        unfold execOp
        have hf:a.eval (.func f)= .func (.func f) #[] #[]:=rfl
        simp[ho,resolve,hf,Deferred.ofValue,invoke,key hu a ha,valS_run h1]
     ·cases h
   ·cases h
 ·cases h
theorem bel_vNext{n:Next}(h:vNext n=some v):bel k v:=by
 unfold vNext at h
 split at h
 ·exact bel_back h
 ·cases h
theorem bel_semA{ty:TypeId}{op:Op}(h:semA P ρ ty op=some v):bel k v:=by
 unfold semA at h
 split at h
 · split at h
   ·obtain⟨r,_,h2⟩:=Option.bind_eq_some_iff.1 h;exact bel_back h2
   ·cases h
 · split at h
   ·obtain⟨r,_,h2⟩:=Option.bind_eq_some_iff.1 h;exact bel_back h2
   ·cases h
 · split at h
   ·obtain⟨r,_,h2⟩:=Option.bind_eq_some_iff.1 h;exact bel_back h2
   ·cases h
 · split at h
   · split at h
     ·obtain⟨r,_,h2⟩:=Option.bind_eq_some_iff.1 h;exact bel_vNext h2
     ·cases h
   · split at h
     ·obtain⟨r,_,h2⟩:=Option.bind_eq_some_iff.1 h;exact bel_vNext h2
     ·cases h
   ·cases h
 ·cases h
end
def kindB(a b:IntKind):Bool:=decide (a=b)
def binA(op:BinOp)(k:IntKind)(m n:Int):Option AV:=
 match op with
 | .add=>some (.int k (k.wrap (m+n)))
 | .sub=>some (.int k (k.wrap (m-n)))
 | .mul=>some (.int k (k.wrap (m*n)))
 | .lss=>some (.bool (decide (m<n)))
 | .leq=>some (.bool (decide (m≤n)))
 | .gtr=>some (.bool (decide (m>n)))
 | .geq=>some (.bool (decide (m≥n)))
 | .eql=>some (.bool (decide (m=n)))
 | .neq=>some (.bool (decide (m≠n)))
 |_=>none
def eqStr:List Nat→List Nat→Bool
 |[],[]=>true
 |a::x,b::y=>bif Nat.beq (a%256) (b%256)then eqStr x y else false
 |_,_=>false
def binS(op:BinOp)(a b:List Nat):Option AV:=
 match op with
 | .eql=>some (.bool (eqStr a b))
 | .neq=>some (.bool (!eqStr a b))
 | .add=>bif Nat.ble (a.length+b.length) 9223372036854775807 then some (.str (a++b))else none
 |_=>none
def ptrTy(P:Program)(t:TypeId):Bool:=
 match P.underlying t with
 |some (.pointer e)=>(P.info? e).isSome
 |_=>false
def slTy(P:Program)(t:TypeId):Bool:=
 match P.underlying t with
 |some (.slice _)=>true
 |_=>false
def strTy(P:Program)(t:TypeId):Bool:=
 match P.underlying t with
 |some .string=>true
 |_=>false
def eqOp:BinOp→Option Bool
 | .eql=>some true
 | .neq=>some false
 |_=>none
def moveA(P:Program)(ρ:ASlots):Op→Option AV
 | .move x=>aev ρ x
 | .assign x=>aev ρ x
 | .pick c a b=>match aev ρ c with
   |some (.bool true)=>aev ρ a
   |some (.bool false)=>aev ρ b
   |_=>none
 | .extract x i=>match aev ρ x with
   |some (.tup l)=>l[i]?
   |_=>none
 | .nilCheck x=>match aev ρ x with
   |some (.ptr i o)=>some (.ptr i o)
   |some (.fn f a b)=>some (.fn f a b)
   |_=>none
 | .unOp .not _ x=>match aev ρ x with
   |some (.bool b)=>some (.bool (!b))
   |_=>none
 | .binOp op t x y _=>match aev ρ x,aev ρ y with
   |some (.int k m),some (.int k' n)=>bif kindB k k' then binA op k m n else none
   |some (.str a),some (.str b)=>binS op a b
   | some (.ptr i q),some (.nilp)=>match eqOp op with
     |some e=>bif ptrTy P t then some (.bool (!e))else none
     |none=>none
   | some (.ptr i q),some (.ptr j r)=>match eqOp op with
     |some e=>bif ptrTy P t&&Nat.beq i j&&Nat.beq q r then some (.bool e)else none
     |none=>none
   | some (.sl i q l c),some (.nils)=>match eqOp op with
     |some e=>bif slTy P t then some (.bool (!e))else none
     |none=>none
   | some (.slu i q l c d),some (.nils)=>match eqOp op with
     |some e=>bif slTy P t then some (.bool (!e))else none
     |none=>none
   |_,_=>none
 |_=>none
section
variable{P:Program}{o:Oper}{ρ:ASlots}{Γ:List Chunk}{σ:Nat→Nat}{v:AV}{k:Nat}
theorem binA_rd{op:BinOp}{k:IntKind}{m n:Int}{ρ:Slots}{x y:Operand}{t t':TypeId}(ho:o.op= .binOp op t x y t')(hx:ev ρ x=some (.int k m))(hy:ev ρ y=some (.int k n))(h:binA op k m n=some v):Rd P o ρ Γ (val σ v):=by
 unfold binA at h
 split at h<;>first|cases h|(simp only[Option.some.injEq]at h;subst h)
 ·exact Rd.bin ho hx hy fun w=>by simp[eqGuard,binOp,Op.intArith,val]
 ·exact Rd.bin ho hx hy fun w=>by simp[eqGuard,binOp,Op.intArith,val]
 ·exact Rd.bin ho hx hy fun w=>by simp[eqGuard,binOp,Op.intArith,val]
 ·exact Rd.lss ho hx hy
 ·exact Rd.leq ho hx hy
 ·exact Rd.gtr ho hx hy
 ·exact Rd.geq ho hx hy
 ·exact Rd.eql ho hx hy
 ·exact Rd.neq ho hx hy
theorem ofNat_beq(a b:Nat):(UInt8.ofNat a==UInt8.ofNat b)=Nat.beq (a%256) (b%256):=by
 rw[Bool.eq_iff_iff,beq_iff_eq,Nat.beq_eq]
 constructor
 ·intro h;have:=congrArg UInt8.toNat h;simpa using this
 ·intro h;apply UInt8.toNat_inj.1;simpa using h
theorem eqStr_ok:∀a b:List Nat,((a.map UInt8.ofNat)==(b.map UInt8.ofNat))=eqStr a b
 |[],[]=>rfl
 |[],_::_=>rfl
 |_::_,[]=>rfl
 | a::x,b::y=>by
   show(UInt8.ofNat a==UInt8.ofNat b&&(x.map UInt8.ofNat)==(y.map UInt8.ofNat))=_
   rw[ofNat_beq,eqStr_ok x y]
   show _=(bif Nat.beq (a%256) (b%256)then eqStr x y else false)
   cases Nat.beq (a%256) (b%256)<;>simp
theorem bytes_toList(a:List Nat):(bytesOf a).toList=a.map UInt8.ofNat:=by unfold bytesOf;exact ByteArray.toList_mk _
theorem bytes_size(a:List Nat):(bytesOf a).size=a.length:=by unfold bytesOf;simp[ByteArray.size]
theorem bytes_add(a b:List Nat):bytesOf a++bytesOf b=bytesOf (a++b):=by unfold bytesOf;rw[ByteArray.mk_append_mk,List.map_append]
theorem bytes_extract(a:List Nat)(l h:Nat):(bytesOf a).extract l h=bytesOf ((a.drop l).take (h-l)):=by unfold bytesOf;rw[ByteArray.extract_mk,List.map_take,List.map_drop]
theorem binS_rd{op:BinOp}{a b:List Nat}{ρ:Slots}{x y:Operand}{t t':TypeId}(ho:o.op= .binOp op t x y t')(hx:ev ρ x=some (.string (bytesOf a)))(hy:ev ρ y=some (.string (bytesOf b)))(h:binS op a b=some v):Rd P o ρ Γ (val σ v):=by
 unfold binS at h
 split at h
 ·cases h;exact Rd.bin ho hx hy fun w=>by simp[eqGuard,binOp,Op.stringOp,val,bytes_toList,eqStr_ok]
 ·cases h;exact Rd.bin ho hx hy fun w=>by simp[eqGuard,binOp,Op.stringOp,val,bytes_toList,eqStr_ok]
 · cases hb:Nat.ble (a.length+b.length) 9223372036854775807 with
   |false=>rw[hb]at h;cases h
   | true=>
     rw[hb]at h;cases h
     have hle:=Nat.le_of_ble_eq_true hb
     refine Rd.bin ho hx hy fun w=>?_
     have e:(bytesOf a).size+(bytesOf b).size=a.length+b.length:=by rw[bytes_size,bytes_size]
     simp only[eqGuard,binOp,Op.stringOp,val,e]
     have:¬((a.length+b.length:Nat):Int)>IntKind.i64.max:=by
      have:IntKind.i64.max=9223372036854775807:=by simp[IntKind.max,IntKind.signed,IntKind.bits]
      rw[this];omega
     simp only[if_neg this,bytes_add]
     simp
 ·cases h
theorem eqOp_ok{op:BinOp}{e:Bool}(h:eqOp op=some e):(e=true∧op= .eql)∨(e=false∧op= .neq):=by
 unfold eqOp at h
 split at h
 ·cases h;exact .inl ⟨rfl,rfl⟩
 ·cases h;exact .inr ⟨rfl,rfl⟩
 ·cases h
theorem ptrTy_ok{t:TypeId}(h:ptrTy P t=true):∃e j,P.underlying t=some (.pointer e)∧P.info? e=some j:=by
 unfold ptrTy at h
 split at h
 · rename_i e he
   cases hj:P.info? e with
   |none=>rw[hj]at h;cases h
   |some j=>exact⟨e,j,he,hj⟩
 ·cases h
theorem slTy_ok{t:TypeId}(h:slTy P t=true):∃e,P.underlying t=some (.slice e):=by
 unfold slTy at h
 split at h
 ·rename_i e he;exact⟨e,he⟩
 ·cases h
theorem strTy_ok{t:TypeId}(h:strTy P t=true):P.underlying t=some .string:=by
 unfold strTy at h
 split at h
 ·rename_i he;exact he
 ·cases h
theorem eqNil_rd{op:BinOp}{e:Bool}{ρ:Slots}{x y:Operand}{t t':TypeId}{a:Addr}(ho:o.op= .binOp op t x y t')(he:eqOp op=some e)(ht:ptrTy P t=true)(hx:ev ρ x=some (.pointer (some a)))(hy:ev ρ y=some (.pointer none)):Rd P o ρ Γ (.bool (!e)):=by
 obtain⟨te,j,h1,_⟩:=ptrTy_ok ht
 rcases eqOp_ok he with⟨rfl,rfl⟩|⟨rfl,rfl⟩
 ·exact Rd.eqlNil ho h1 hx hy
 ·exact Rd.neqNil ho h1 hx hy
theorem eqPtr_rd{op:BinOp}{e:Bool}{ρ:Slots}{x y:Operand}{t t':TypeId}{a:Addr}(ho:o.op= .binOp op t x y t')(he:eqOp op=some e)(ht:ptrTy P t=true)(hx:ev ρ x=some (.pointer (some a)))(hy:ev ρ y=some (.pointer (some a))):Rd P o ρ Γ (.bool e):=by
 obtain⟨te,j,h1,h2⟩:=ptrTy_ok ht
 refine Rd.bin ho hx hy fun w=>?_
 have h:∀d:Nat,(Op.equalIn (d+1) t (.pointer (some a)) (.pointer (some a))).run P w= .ok true w:=fun d=>by
  simp[Op.equalIn,run_underlying h1,sizeOf,typeInfo,h2,run_sameAddr_same]
 rcases eqOp_ok he with⟨rfl,rfl⟩|⟨rfl,rfl⟩
 ·simp only[eqGuard,binOp];simp[Op.equal,Op.maxDepth,h 9999]
 ·simp only[eqGuard,binOp];simp[Op.equal,Op.maxDepth,h 9999]
theorem eqSl_rd{op:BinOp}{e:Bool}{ρ:Slots}{x y:Operand}{t t':TypeId}{a:Addr}{n c:Nat}(ho:o.op= .binOp op t x y t')(he:eqOp op=some e)(ht:slTy P t=true)(hx:ev ρ x=some (.slice (some a) n c))(hy:ev ρ y=some (.slice none 0 0)):Rd P o ρ Γ (.bool (!e)):=by
 obtain⟨te,h1⟩:=slTy_ok ht
 refine Rd.bin ho hx hy fun w=>?_
 have h:(Op.equal t (.slice (some a) n c) (.slice none 0 0)).run P w= .ok false w:=by
  have key:∀d,(Op.equalIn (d+1) t (.slice (some a) n c) (.slice none 0 0)).run P w= .ok false w:=fun d=>by
   simp[Op.equalIn,run_underlying h1]
  exact key 9999
 rcases eqOp_ok he with⟨rfl,rfl⟩|⟨rfl,rfl⟩
 ·simp[eqGuard,binOp,h]
 ·simp[eqGuard,binOp,h]
theorem evv{x:Operand}(h:aev ρ x=some v){u:Value}(hu:val σ v=u:=by first|(simp only[val];done)|(simp only[val];rfl)):ev (inst σ ρ) x=some u:=by rw[ev_inst (σ:=σ) h,hu]
theorem moveA_rd(h:moveA P ρ o.op=some v):Rd P o (inst σ ρ) Γ (val σ v):=by
 generalize ho:o.op=op at h
 unfold moveA at h
 split at h
 ·exact Rd.move ho (ev_inst h)
 ·exact Rd.assign ho (ev_inst h)
 · split at h
   ·rename_i hc;exact Rd.pickT ho (evv hc) (ev_inst h)
   ·rename_i hc;exact Rd.pickF ho (evv hc) (ev_inst h)
   ·cases h
 · split at h
   · rename_i l hx
     refine Rd.extract (vs:=vals σ l) ho (evv hx) ?_
     rw[vals_map,List.getElem?_map,h];rfl
   ·cases h
 · split at h
   ·rename_i hx;cases h;simp only[val];exact Rd.nilCheck ho (evv hx)
   ·rename_i hx;cases h;simp only[val];exact Rd.nilCheckF ho (evv hx)
   ·cases h
 · split at h
   ·rename_i hx;cases h;simp only[val];exact Rd.not ho (evv hx)
   ·cases h
 · split at h
   · rename_i hx hy
     cases hk:kindB _ _ with
     |false=>rw[hk]at h;cases h
     | true=>
       rw[hk]at h
       have e:=of_decide_eq_true hk
       subst e
       exact binA_rd ho (evv hx) (evv hy) h
   · rename_i hx hy
     exact binS_rd ho (evv hx) (evv hy) h
   · rename_i hx hy
     split at h
     · rename_i e he
       cases hp:ptrTy P _ with
       |false=>rw[hp]at h;cases h
       |true=>rw[hp]at h;cases h;simp only[val];exact eqNil_rd ho he hp (evv hx) (evv hy)
     ·cases h
   · rename_i i q j r hx hy
     split at h
     · rename_i e he
       cases hp:(ptrTy P _&&Nat.beq i j&&Nat.beq q r)with
       |false=>rw[hp]at h;cases h
       | true=>
         rw[hp]at h;cases h
         simp only[Bool.and_eq_true]at hp
         obtain⟨⟨h1,h2⟩,h3⟩:=hp
         have e1:=Nat.eq_of_beq_eq_true h2
         have e2:=Nat.eq_of_beq_eq_true h3
         subst e1 e2
         simp only[val];exact eqPtr_rd ho he h1 (evv hx) (evv hy)
     ·cases h
   · rename_i hx hy
     split at h
     · rename_i e he
       cases hp:slTy P _ with
       |false=>rw[hp]at h;cases h
       |true=>rw[hp]at h;cases h;simp only[val];exact eqSl_rd ho he hp (evv hx) (evv hy)
     ·cases h
   · rename_i hx hy
     split at h
     · rename_i e he
       cases hp:slTy P _ with
       |false=>rw[hp]at h;cases h
       |true=>rw[hp]at h;cases h;simp only[val];exact eqSl_rd ho he hp (evv hx) (evv hy)
     ·cases h
   ·cases h
 ·cases h
theorem bel_get{l:List AV}{i:Nat}(hb:bels k l)(h:l[i]?=some v):bel k v:=bels_iff.1 hb v (mog h)
theorem bel_binA{op:BinOp}{K:IntKind}{m n:Int}(h:binA op K m n=some v):bel k v:=by
 unfold binA at h
 split at h<;>first|(simp only[Option.some.injEq]at h;subst h;simp[bel])|cases h
theorem bel_binS{op:BinOp}{a b:List Nat}(h:binS op a b=some v):bel k v:=by
 unfold binS at h
 split at h
 ·cases h;simp[bel]
 ·cases h;simp[bel]
 · cases hb:Nat.ble (a.length+b.length) 9223372036854775807 with
   |false=>rw[hb]at h;cases h
   |true=>rw[hb]at h;cases h;simp[bel]
 ·cases h
theorem bel_bif{c:Bool}{u v:AV}(h:(bif c then some u else none)=some v)(hu:bel k u):bel k v:=by
 cases c with
 |false=>cases h
 |true=>cases h;exact hu
theorem bel_moveA{op:Op}(hk:4096≤k)(hb:belS k ρ)(h:moveA P ρ op=some v):bel k v:=by
 unfold moveA at h
 split at h
 ·exact bel_aev hk hb h
 ·exact bel_aev hk hb h
 · split at h
   ·exact bel_aev hk hb h
   ·exact bel_aev hk hb h
   ·cases h
 · split at h
   ·rename_i l hx;have h2:=bel_aev hk hb hx;simp only[bel]at h2;exact bel_get h2 h
   ·cases h
 · split at h
   ·rename_i hx;cases h;exact bel_aev hk hb hx
   ·rename_i hx;cases h;exact bel_aev hk hb hx
   ·cases h
 · split at h
   ·cases h;simp[bel]
   ·cases h
 · split at h
   · cases hk:kindB _ _ with
     |false=>rw[hk]at h;cases h
     |true=>rw[hk]at h;exact bel_binA h
   ·exact bel_binS h
   · split at h
     ·exact bel_bif h (by simp[bel])
     ·cases h
   · split at h
     ·exact bel_bif h (by simp[bel])
     ·cases h
   · split at h
     ·exact bel_bif h (by simp[bel])
     ·cases h
   · split at h
     ·exact bel_bif h (by simp[bel])
     ·cases h
   ·cases h
 ·cases h
end
def slv:AV→Option (Nat×Nat×Nat×AC)
 | .sl i q l c=>some (i,q,l, .kn c)
 | .slu i q l c d=>some (i,q,l, .un c d)
 |_=>none
def mkSl(i q l:Nat):AC→AV
 | .kn c=> .sl i q l c
 | .un c d=> .slu i q l c d
def capLo:AC→Nat
 | .kn c=>c
 | .un _ d=>d
def acSub(a:AC)(n:Nat):AC:=
 match a with
 | .kn c=> .kn (c-n)
 | .un c d=> .un c (d-n)
def offA(a:AC)(q lo size:Nat):Option Nat:=
 match a with
 | .kn c=>bif Nat.beq c lo then some q else some (q+lo*size)
 | .un _ d=>bif Nat.blt lo d then some (q+lo*size)else bif Nat.beq lo 0 then some q else none
def natA(ρ:ASlots)(x:Operand):Option Nat:=
 match aev ρ x with
 |some (.int _ (.ofNat n))=>some n
 |_=>none
def partA(P:Program)(e:TypeId)(cs:List AV)(off:Nat):Option AV:=
 match rowN P e with
 |some n=>bif Nat.ble (off+n) cs.length then some (.agg (subA cs off n))else none
 |none=>bif cellB P e then cs[off]? else none
def fieldV(P:Program)(t:TypeId)(f:Nat):Option (Nat×Nat):=
 match P.underlying t with
 | some (.struct fs)=>match fs[f]? with
   |some fd=>some (fd.offset,fd.type)
   |none=>none
 |_=>none
def cellsA:AV→List AV
 | .agg l=>l
 |v=>[v]
def fillA(place:Nat→Option (Nat×Nat))(cs:List AV):List (Nat×AV)→Option (List AV)
 |[]=>some cs
 | (i,v)::r=>match place i with
   |some (off,size)=>bif Nat.beq (cellsA v).length size&&Nat.ble (off+(cellsA v).length) cs.length then fillA place (overA cs off (cellsA v)) r else none
   |none=>none
def placesA(P:Program):List Field→Option (List (Nat×Nat))
 |[]=>some []
 | f::r=>match P.info? f.type,placesA P r with
   |some i,some l=>some ((f.offset,i.size)::l)
   |_,_=>none
def builtA(P:Program)(t:TypeId)(parts:List (Nat×AV)):Option (List AV):=
 match zerosA P t,P.underlying t with
 | some zs,some (.struct fs)=>match placesA P fs.toList with
   |some pl=>fillA (fun i=>pl[i]?) zs parts
   |none=>none
 | some zs,some (.array _ e)=>match P.info? e with
   |some ie=>fillA (fun i=>some (i*ie.size,ie.size)) zs parts
   |none=>none
 |_,_=>none
def partsA(ρ:ASlots):List (Nat×Operand)→Option (List (Nat×AV))
 |[]=>some []
 | (i,x)::r=>match aev ρ x,partsA ρ r with
   |some v,some l=>some ((i,v)::l)
   |_,_=>none
def sliceA(size:Nat)(i q l:Nat)(a:AC)(lo hi:Nat):Option AV:=
 bif Nat.ble lo hi&&Nat.ble hi (capLo a)then(match offA a q lo size with
  |some q'=>some (mkSl i q' (hi-lo) (acSub a lo))
  |none=>none)else none
def valA (P:Program)(ρ:ASlots):Op→Option AV
 | .fieldAddr s x f=>match aev ρ x with
   | some (.ptr i o)=>match fieldA P s f with
     |some k=>some (.ptr i (o+k))
     |none=>none
   |_=>none
 | .indexAddr t x y=>match aev ρ x,natA ρ y with
   | some (.ptr i q),some j=>match arrA P t with
     |some (n,_,size)=>bif Nat.blt j n then some (.ptr i (q+j*size))else none
     |none=>none
   | some v,some j=>match slv v,sliceI P t with
     |some (i,q,l,_),some s=>bif Nat.blt j l then some (.ptr i (q+j*s.size))else none
     |_,_=>none
   |_,_=>none
 | .index t x y=>match aev ρ x,natA ρ y with
   | some (.str s),some j=>bif strTy P t then(match s[j]? with
     |some b=>some (.int .u8 (Int.ofNat (b%256)))
     |none=>none)else none
   | some (.agg cs),some j=>match arrA P t with
     |some (n,e,size)=>bif Nat.blt j n then partA P e cs (j*size)else none
     |none=>none
   |_,_=>none
 | .field t x f=>match aev ρ x,fieldV P t f with
   |some (.agg cs),some (off,e)=>partA P e cs off
   |_,_=>none
 | .build t parts=>match partsA ρ parts.toList with
   |some l=>(builtA P t l).map .agg
   |none=>none
 | .makeFunc (.func f) xs ys=>match aevs ρ xs.toList,aevs ρ ys.toList with
   |some us,some vs=>some (.fn f us vs)
   |_,_=>none
 | .slice t x lo hi mx=>match mx with
   | none=>match aev ρ x with
     | some (.str s)=>bif strTy P t then(match(match lo with|none=>some 0|some y=>natA ρ y),(match hi with|none=>some s.length|some y=>natA ρ y)with
       |some a,some b=>bif Nat.ble a b&&Nat.ble b s.length then some (.str ((s.drop a).take (b-a)))else none
       |_,_=>none)else none
     | some v=>match slv v,sliceI P t with
       | some (i,q,l,c),some s=>match lo,hi with
         |none,none=>some v
         | none,some y=>match natA ρ y with
           |some b=>bif Nat.ble b (capLo c)then some (mkSl i q b c)else none
           |none=>none
         | some x,none=>match natA ρ x with
           |some a=>bif Nat.ble l (capLo c)then sliceA s.size i q l c a l else none
           |none=>none
         | some x,some y=>match natA ρ x,natA ρ y with
           |some a,some b=>sliceA s.size i q l c a b
           |_,_=>none
       |_,_=>none
     |none=>none
   | some z=>match lo,hi with
     | none,some y=>match aev ρ x,natA ρ y,natA ρ z with
       |some .nils,some 0,some 0=>bif (sliceI P t).isSome then some .nils else none
       | some v,some b,some m=>match slv v,sliceI P t with
         |some (i,q,_,c),some _=>bif Nat.ble b m&&Nat.ble m (capLo c)then some (.sl i q b m)else none
         |_,_=>none
       |_,_,_=>none
     |_,_=>none
 | .call c=>match c.callee,c.args.toList,c.argTypes.toList with
   | .builtin .len,[x],[t]=>match aev ρ x with
     | some v=>match slv v with
       |some (_,_,l,_)=>bif slTy P t then some (.int .i64 (Int.ofNat l))else none
       | none=>match v with
         | .str s=>bif strTy P t then some (.int .i64 (Int.ofNat s.length))else none
         |_=>none
     |none=>none
   | .builtin .unsafeSliceData,[x],[_]=>match aev ρ x with
     | some v=>match slv v with
       |some (i,q,_,c)=>bif Nat.blt 0 (capLo c)then some (.ptr i q)else none
       |none=>none
     |none=>none
   |_,_,_=>none
 |_=>none
section
variable{P:Program}{o:Oper}{ρ:ASlots}{Γ:List Chunk}{σ:Nat→Nat}{v:AV}{k:Nat}
theorem slv_val{i q l:Nat}{c:AC}(h:slv v=some (i,q,l,c)):val σ v= .slice (some ⟨bl σ i,q,none⟩) l (cp σ c):=by
 cases v<;>first|(cases h;done)|(simp only[slv,Option.some.injEq,Prod.mk.injEq]at h;obtain⟨rfl,rfl,rfl,rfl⟩:=h;simp only[val,cp])
theorem mkSl_val{i q l:Nat}{c:AC}:val σ (mkSl i q l c)= .slice (some ⟨bl σ i,q,none⟩) l (cp σ c):=by
 cases c<;>simp only[mkSl,val,cp]
theorem slv_bel{i q l:Nat}{c:AC}(h:slv v=some (i,q,l,c))(hb:bel k v):i<k∧belC k c:=by
 cases v<;>first|(cases h;done)|(simp only[slv,Option.some.injEq,Prod.mk.injEq]at h;obtain⟨rfl,rfl,rfl,rfl⟩:=h;simp only[bel]at hb;first|exact⟨hb,trivial⟩|exact hb)
theorem mkSl_bel{i q l:Nat}{c:AC}(h:i<k)(hc:belC k c):bel k (mkSl i q l c):=by
 cases c<;>simp only[mkSl,bel]<;>first|exact h|exact⟨h,hc⟩
theorem capLo_le{c:AC}:capLo c≤cp σ c:=by cases c<;>simp only[capLo,cp]<;>omega
theorem acSub_cp{c:AC}{n:Nat}(h:n≤capLo c):cp σ (acSub c n)=cp σ c-n:=by
 cases c with
 |kn c=>simp only[acSub,cp]
 |un c d=>simp only[capLo]at h;simp only[acSub,cp];omega
theorem acSub_bel{c:AC}{n:Nat}(h:belC k c):belC k (acSub c n):=by cases c<;>exact h
theorem slAt_same{A:Option Addr}{cap lo size:Nat}(h:cap=lo):slAt A cap lo size=A:=by unfold slAt;rw[if_pos h]
theorem slAt_add{b q cap lo size:Nat}(h:cap≠lo):slAt (some ⟨b,q,none⟩) cap lo size=some ⟨b,q+lo*size,none⟩:=by unfold slAt;rw[if_neg h];simp[Addr.add]
theorem slAt_zero{b q cap size:Nat}:slAt (some ⟨b,q,none⟩) cap 0 size=some ⟨b,q,none⟩:=by unfold slAt;split<;>simp[Addr.add]
theorem offA_ok{c:AC}{q lo size q' b:Nat}(h:offA c q lo size=some q'):slAt (some ⟨b,q,none⟩) (cp σ c) lo size=some ⟨b,q',none⟩:=by
 cases c with
 | kn c=>
   simp only[offA]at h
   cases hb:Nat.beq c lo with
   |true=>rw[hb]at h;cases h;exact slAt_same (Nat.eq_of_beq_eq_true hb)
   | false=>
     rw[hb]at h;cases h
     exact slAt_add (fun e=>by rw[show c=lo from e,Nat.beq_refl]at hb;cases hb)
 | un c d=>
   simp only[offA]at h
   cases hb:Nat.blt lo d with
   | true=>
     rw[hb]at h;cases h
     have:=Nat.le_of_ble_eq_true hb
     exact slAt_add (by show d+σ c≠lo;omega)
   | false=>
     rw[hb]at h;simp only[cond_false]at h
     cases hz:Nat.beq lo 0 with
     |false=>rw[hz]at h;cases h
     | true=>
       rw[hz]at h;cases h
       have:=Nat.eq_of_beq_eq_true hz
       subst this
       exact slAt_zero
theorem natA_ev{x:Operand}{n:Nat}(h:natA ρ x=some n):∃k,ev (inst σ ρ) x=some (.int k (n:Int)):=by
 unfold natA at h
 split at h
 ·rename_i k m hx;cases h;exact⟨k,evv hx⟩
 ·cases h
theorem partA_run{e:TypeId}{cs:List AV}{off:Nat}(h:partA P e cs off=some v)(w:World):(part e (vals σ cs).toArray off).run P w= .ok (val σ v) w:=by
 unfold partA at h
 split at h
 · rename_i n hn
   cases hb:Nat.ble (off+n) cs.length with
   |false=>rw[hb]at h;cases h
   | true=>
     rw[hb]at h;cases h
     obtain⟨d,h1,h2,h3⟩:=rowN_ok hn
     have hagg:(isAgg e).run P w= .ok true w:=by
      unfold isAgg
      rw[Sem.run_bind,run_underlying h1 w]
      cases d<;>simp_all [TypeDesc.isRow]
     obtain⟨i,hi,hs⟩:=Option.map_eq_some_iff.1 h3
     have hz:(sizeOf e).run P w= .ok n w:=by simp[sizeOf,typeInfo,hi,hs]
     unfold part
     simp only[Sem.run_bind,hagg,Result.andThen_ok,if_true,hz,Sem.run_pure,val,vals_sub,sub]
     congr 1
     simp[List.extract_eq_take_drop]
 · cases hb:cellB P e with
   |false=>rw[hb]at h;cases h
   | true=>
     rw[hb]at h;simp only[cond_true]at h
     obtain⟨d,h1,h2,h3⟩:=cellB_ok hb
     have hagg:(isAgg e).run P w= .ok false w:=by
      unfold isAgg
      rw[Sem.run_bind,run_underlying h1 w]
      cases d<;>simp_all [TypeDesc.isRow]
     have hx:(vals σ cs)[off]?=some (val σ v):=by rw[vals_map,List.getElem?_map,h];rfl
     unfold part
     simp[hagg,hx]
theorem partA_bel{e:TypeId}{cs:List AV}{off:Nat}(h:partA P e cs off=some v)(hb:bels k cs):bel k v:=by
 unfold partA at h
 split at h
 · rename_i n hn
   cases hq:Nat.ble (off+n) cs.length with
   |false=>rw[hq]at h;cases h
   |true=>rw[hq]at h;cases h;simp only[bel];exact bels_sub hb
 · cases hq:cellB P e with
   |false=>rw[hq]at h;cases h
   |true=>rw[hq]at h;exact bel_get hb h
theorem cellsA_val{v:AV}:(val σ v).cells=(vals σ (cellsA v)).toArray:=by
 cases v<;>first|(simp only[cellsA,val,vals,Value.cells];done)|rfl|(simp only[cellsA,val,vals];rfl)
theorem cellsA_bel{v:AV}(h:bel k v):bels k (cellsA v):=by
 cases v<;>simp only[cellsA,bels,bel,and_true]at h⊢ <;>exact h
theorem fold_over:∀(us:List Value) (cs:List Value) (off:Nat) (j:Nat),off+j+us.length≤cs.length→
    (us.zipIdx j).foldl (fun(a:Array Value) (p:Value×Nat)=>a.setIfInBounds (off+p.2) p.1) cs.toArray=(over cs (off+j) us).toArray
 |[],cs,off,j,_=>by simp[over]
 | u::us,cs,off,j,h=>by
   simp only[lc1]at h
   simp only[List.zipIdx_cons,List.foldl_cons]
   rw[List.setIfInBounds_toArray,fold_over us (cs.set (off+j) u) off (j+1) (by rw[List.length_set];omega)]
   show(over (cs.set (off+j) u) (off+j+1) us).toArray=_
   rw[over_cons cs (off+j) u us (by omega)]
theorem fillA_ok{place:Nat→Option (Nat×Nat)}:∀{parts:List (Nat×AV)} {cs ds:List AV},fillA place cs parts=some ds→Instr.fill place (vals σ cs).toArray (parts.map fun p=>(p.1,val σ p.2))=some (vals σ ds).toArray
 |[],cs,ds,h=>by simp only[fillA,Option.some.injEq]at h;subst h;rfl
 | (i, v)::r,cs,ds,h=>by
   unfold fillA at h
   split at h
   · rename_i off size hp
     cases hb:(Nat.beq (cellsA v).length size&&Nat.ble (off+(cellsA v).length) cs.length)with
     |false=>rw[hb]at h;cases h
     | true=>
       rw[hb]at h;simp only[cond_true]at h
       rw[Bool.and_eq_true]at hb
       have h1:=Nat.eq_of_beq_eq_true hb.1
       have h2:=Nat.le_of_ble_eq_true hb.2
       have ih:=fillA_ok (place:=place) h
       simp only[List.map_cons]
       unfold Instr.fill
       simp only[hp]
       have e1:(val σ v).cells.size=size:=by rw[cellsA_val];simp[vals_len,h1]
       have e2:¬(off+(val σ v).cells.size>(vals σ cs).toArray.size):=by rw[e1];simp[vals_len];omega
       rw[if_neg (by rw[e1];simp[vals_len];omega)]
       have e3:((val σ v).cells.zipIdx.foldl (fun cs (x:Value×Nat)=>cs.setIfInBounds (off+x.2) x.1) (vals σ cs).toArray)=(vals σ (overA cs off (cellsA v))).toArray:=by
        rw[vals_over,cellsA_val]
        have:=fold_over (vals σ (cellsA v)) (vals σ cs) off 0 (by rw[vals_len,vals_len];omega)
        rw[Nat.add_zero]at this
        rw[←this]
        simp[←Array.foldl_toList]
       rw[←ih,←e3]
   ·cases h
theorem fillA_bel{place:Nat→Option (Nat×Nat)}:∀{parts:List (Nat×AV)} {cs ds:List AV},fillA place cs parts=some ds→bels k cs→(∀p∈parts,bel k p.2)→bels k ds
 |[],cs,ds,h,hc,_=>by simp only[fillA,Option.some.injEq]at h;subst h;exact hc
 | (i, v)::r,cs,ds,h,hc,hp=>by
   unfold fillA at h
   split at h
   · rename_i off size _
     cases hb:(Nat.beq (cellsA v).length size&&Nat.ble (off+(cellsA v).length) cs.length)with
     |false=>rw[hb]at h;cases h
     | true=>
       rw[hb]at h;simp only[cond_true]at h
       exact fillA_bel h (bels_over hc (cellsA_bel (hp _ (List.mem_cons_self ..)))) fun p hq=>hp p (List.mem_cons_of_mem _ hq)
   ·cases h
theorem placesA_ok:∀{fs:List Field} {l:List (Nat×Nat)},placesA P fs=some l→fs.mapM (fun f=>(P.info? f.type).map fun i=>(f.offset,i.size))=some l
 |[],l,h=>by simp only[placesA,Option.some.injEq]at h;subst h;rfl
 | f ::r,l,h=>by
   unfold placesA at h
   split at h
   · rename_i i l' h1 h2
     simp only[Option.some.injEq]at h;subst h
     simp[List.mapM_cons,h1,placesA_ok h2]
   ·cases h
theorem builtA_ok{t:TypeId}{parts:List (Nat×AV)}{cs:List AV}(h:builtA P t parts=some cs):P.built t (parts.map fun p=>(p.1,val σ p.2))=some (vals σ cs).toArray:=by
 unfold builtA at h
 unfold Program.built
 split at h
 · rename_i zs fs hz hu
   have hz':=zerosA_ok hz σ
   replace hz':=hz'.h
   obtain⟨it,h1,h2⟩:=Option.bind_eq_some_iff.1 hz'
   obtain⟨z,h3,h4⟩:=Option.map_eq_some_iff.1 h2
   split at h
   · rename_i pl hp
     simp only[h1,hu,h3,placesA_ok hp]
     have:=fillA_ok (σ:=σ) h
     rw[←h4]at this
     simpa using this
   ·cases h
 · rename_i zs n e hz hu
   have hz':=zerosA_ok hz σ
   replace hz':=hz'.h
   obtain⟨it,h1,h2⟩:=Option.bind_eq_some_iff.1 hz'
   obtain⟨z,h3,h4⟩:=Option.map_eq_some_iff.1 h2
   split at h
   · rename_i ie hi
     simp only[h1,hu,h3,hi]
     have:=fillA_ok (σ:=σ) h
     rw[←h4]at this
     simpa using this
   ·cases h
 ·cases h
theorem builtA_bel{t:TypeId}{parts:List (Nat×AV)}{cs:List AV}(h:builtA P t parts=some cs)(hp:∀p∈parts,bel k p.2):bels k cs:=by
 unfold builtA at h
 split at h
 · rename_i hz _
   split at h
   ·exact fillA_bel h (bels_zerosA hz) hp
   ·cases h
 · rename_i hz _
   split at h
   ·exact fillA_bel h (bels_zerosA hz) hp
   ·cases h
 ·cases h
theorem partsA_ok:∀{ps:List (Nat×Operand)} {l:List (Nat×AV)},partsA ρ ps=some l→evs (inst σ ρ) (ps.map (·.2))=some ((l.map fun p=>(p.1,val σ p.2)).map (·.2))∧ps.map (·.1)=(l.map fun p=>(p.1,val σ p.2)).map (·.1)
 |[],l,h=>by simp only[partsA,Option.some.injEq]at h;subst h;exact⟨rfl,rfl⟩
 | (i,x)::r,l,h=>by
   unfold partsA at h
   split at h
   · rename_i v l' h1 h2
     simp only[Option.some.injEq]at h;subst h
     obtain⟨a,b⟩:=partsA_ok h2
     simp only[List.map_cons,evs,ev_inst (σ:=σ) h1,a,b,and_self]
   ·cases h
theorem partsA_bel(hk:4096≤k)(hb:belS k ρ):∀{ps:List (Nat×Operand)} {l:List (Nat×AV)},partsA ρ ps=some l→∀p∈l,bel k p.2
 |[],l,h=>by simp only[partsA,Option.some.injEq]at h;subst h;simp
 | (i,x)::r,l,h=>by
   unfold partsA at h
   split at h
   · rename_i v l' h1 h2
     simp only[Option.some.injEq]at h;subst h
     intro p hp
     rcases List.mem_cons.1 hp with rfl|hp
     ·exact bel_aev hk hb h1
     ·exact partsA_bel hk hb h2 p hp
   ·cases h
end
section
variable{P:Program}{o:Oper}{ρ:ASlots}{Γ:List Chunk}{σ:Nat→Nat}{v:AV}{k:Nat}{x y z:Operand}{ρs:Slots}{t:TypeId}
theorem Rd.arrAt{n e size b off j:Nat}{k:IntKind}(ho:o.op= .indexAddr t x y)(ht:arrA P t=some (n,e,size))(hx:ev ρs x=some (.pointer (some ⟨b,off,none⟩)))(hy:ev ρs y=some (.int k (j:Int)))(hj:j<n):Rd P o ρs Γ (.pointer (some ⟨b,off+j*size,none⟩)):=
 Rd.indexArr ho (ArrTy.of (arrA_ok ht).1 (arrA_ok ht).2) hx hy hj
theorem Rd.slAt{i q l j:Nat}{c:AC}{s:SI}{k:IntKind}(ho:o.op= .indexAddr t x y)(ht:sliceI P t=some s)(hx:ev ρs x=some (.slice (some ⟨bl σ i,q,none⟩) l (cp σ c)))(hy:ev ρs y=some (.int k (j:Int)))(hj:j<l):Rd P o ρs Γ (.pointer (some ⟨bl σ i,q+j*s.size,none⟩)):=by
 have:=Rd.indexS (P:=P) (Γ:=Γ) (A:=some ⟨bl σ i,q,none⟩) rfl ho hx hy (sliceI_ok ht σ) hj
 simpa only[blk,ofs,Option.getD_some]using this
theorem Rd.byteAt{s:List Nat}{j b:Nat}{k:IntKind}(ho:o.op= .index t x y)(ht:P.underlying t=some .string)(hx:ev ρs x=some (.string (bytesOf s)))(hy:ev ρs y=some (.int k (j:Int)))(hj:s[j]?=some b):Rd P o ρs Γ (.int .u8 (Int.ofNat (b%256))):=by
 have hlt:j<s.length:=(List.getElem?_eq_some_iff.1 hj).1
 have h:=Rd.indexStr (P:=P) (Γ:=Γ) ho ht hx hy (by rw[bytes_size];exact hlt)
 have e:((bytesOf s).data[j]'(by show j<(bytesOf s).size;rw[bytes_size];exact hlt)).toNat=b%256:=by
  unfold bytesOf
  have:=(List.getElem?_eq_some_iff.1 hj).2
  simp[this]
 rw[e]at h
 exact h
theorem Rd.part{n e size j:Nat}{k:IntKind}{cs:List AV}(ho:o.op= .index t x y)(ht:arrA P t=some (n,e,size))(hx:ev ρs x=some (.agg (vals σ cs).toArray))(hy:ev ρs y=some (.int k (j:Int)))(hj:j<n)(h:partA P e cs (j*size)=some v):Rd P o ρs Γ (val σ v):=fun a w ha _=>by
 obtain⟨h1,h2⟩:=arrA_ok ht
 obtain⟨i,hi,hs⟩:=Option.map_eq_some_iff.1 h2
 have hz:(sizeOf e).run P w= .ok size w:=by simp[sizeOf,typeInfo,hi,hs]
 unfold execOp
 have:((j:Int)<(n:Int)):=by omega
 simp[ho,ha.eval hx,ha.eval hy,Instr.index,asIntOf,run_underlying h1,this,hz,partA_run h w]
 intro h9;omega
theorem Rd.fieldOf{off e f:Nat}{cs:List AV}(ho:o.op= .field t x f)(ht:fieldV P t f=some (off,e))(hx:ev ρs x=some (.agg (vals σ cs).toArray))(h:partA P e cs off=some v):Rd P o ρs Γ (val σ v):=fun a w ha _=>by
 unfold fieldV at ht
 split at ht
 · rename_i fs hs
   split at ht
   · rename_i fd hf
     cases ht
     unfold execOp
     simp[ho,ha.eval hx,Instr.field,run_underlying hs,hf,asAgg,partA_run h w]
   ·cases ht
 ·cases ht
theorem Rd.strSl{s:List Nat}{lo hi:Option Operand}{a b:Nat}(ho:o.op= .slice t x lo hi none)(ht:P.underlying t=some .string)(hx:ev ρs x=some (.string (bytesOf s)))
    (h1:match lo with|none=>a=0|some y=>∃k,ev ρs y=some (.int k (a:Int))) (h2:match hi with|none=>b=s.length|some y=>∃k,ev ρs y=some (.int k (b:Int))) (h3:a≤b) (h4:b≤s.length):Rd P o ρs Γ (.string (bytesOf ((s.drop a).take (b-a)))):=fun ac w ha _=>by
 unfold execOp
 rw[←bytes_extract]
 cases lo with
 | none=>
   simp only at h1;subst h1
   cases hi with
   |none=>simp only at h2;subst h2;simp[ho,ha.eval hx,Instr.sliceAt,run_underlying ht,Instr.slice,Instr.sliceBounds,bytes_size];rw[bytes_extract];simp
   | some y=>
     obtain⟨k,hy⟩:=h2
     simp[ho,ha.eval hx,ha.eval hy,Instr.sliceAt,run_underlying ht,Instr.slice,Instr.sliceBounds,Instr.sliceBound,asIntOf,bytes_size,h4]
 | some z=>
   obtain⟨k',hz⟩:=h1
   cases hi with
   |none=>simp only at h2;subst h2;simp[ho,ha.eval hx,ha.eval hz,Instr.sliceAt,run_underlying ht,Instr.slice,Instr.sliceBounds,Instr.sliceBound,asIntOf,bytes_size,h3]
   | some y=>
     obtain⟨k,hy⟩:=h2
     simp[ho,ha.eval hx,ha.eval hy,ha.eval hz,Instr.sliceAt,run_underlying ht,Instr.slice,Instr.sliceBounds,Instr.sliceBound,asIntOf,bytes_size,h4,h3]
theorem Rd.slice3{e bytes size n cap b m:Nat}{zs:List Value}{A:Option Addr}{k k':IntKind}(ho:o.op= .slice t x none (some y) (some z))(ht:SliceTy P t e size bytes zs)(hx:ev ρs x=some (.slice A n cap))(hy:ev ρs y=some (.int k (b:Int)))(hz:ev ρs z=some (.int k' (m:Int)))(h1:b≤m)(h2:m≤cap):Rd P o ρs Γ (.slice A b m):=fun a w ha _=>by
 obtain⟨i,zz,g1,g2,g3,_⟩:=ht.inf
 unfold execOp
 simp[ho,ha.eval hx,ha.eval hy,ha.eval hz,Instr.sliceAt,run_underlying ht.und,Instr.slice,Instr.sliceBounds,Instr.sliceBound,asIntOf,h1,h2,sizeOf,typeInfo,g1]
 intro _
 cases A<;>simp[Addr.add]
theorem sliceA_rd{s:SI}{i q l lo hi:Nat}{c:AC}(ht:sliceI P t=some s)(h:sliceA s.size i q l c lo hi=some v)(R:Value→Prop)(hr:lo≤hi→hi≤cp σ c→R (.slice (Sep.slAt (some ⟨bl σ i,q,none⟩) (cp σ c) lo s.size) (hi-lo) (cp σ c-lo))):R (val σ v):=by
 unfold sliceA at h
 cases hb:(Nat.ble lo hi&&Nat.ble hi (capLo c))with
 |false=>rw[hb]at h;cases h
 | true=>
   rw[hb]at h;simp only[cond_true]at h
   rw[Bool.and_eq_true]at hb
   have h1:=Nat.le_of_ble_eq_true hb.1
   have h2:=Nat.le_of_ble_eq_true hb.2
   have h3:=capLo_le (σ:=σ) (c:=c)
   split at h
   · rename_i q' hq
     cases h
     have:=hr h1 (by omega)
     rw[offA_ok hq]at this
     rw[mkSl_val,acSub_cp (by omega)]
     exact this
   ·cases h
theorem sliceA_bel{s i q l lo hi:Nat}{c:AC}(h:sliceA s i q l c lo hi=some v)(h1:i<k)(h2:belC k c):bel k v:=by
 unfold sliceA at h
 cases hb:(Nat.ble lo hi&&Nat.ble hi (capLo c))with
 |false=>rw[hb]at h;cases h
 | true=>
   rw[hb]at h;simp only[cond_true]at h
   split at h
   ·cases h;exact mkSl_bel h1 (acSub_bel h2)
   ·cases h
theorem run_sliceData{ts:Array TypeId}{ty:TypeId}{a:Addr}{l c:Nat}(h:c≠0){w:World}:(Builtin.unsafeSliceData_ ts ty #[.slice (some a) l c]).run P w= .ok (.pointer (some a)) w:=by
 have e:Builtin.unsafeSliceData_ ts ty #[.slice (some a) l c]=(if c≠0 then pure (.pointer (some a))else(do if(←viewAt a.block).isSome then pure (.pointer (some a))else pure (.pointer (some ⟨←newObj (.view a (←elemOf ty)),0,none⟩)))):=rfl
 rw[e,if_pos h];rfl
theorem evsl{i q l:Nat}{c:AC}{u:AV}(hx:aev ρ x=some u)(h:slv u=some (i,q,l,c)):ev (inst σ ρ) x=some (.slice (some ⟨bl σ i,q,none⟩) l (cp σ c)):=by rw[ev_inst (σ:=σ) hx,slv_val h]
theorem valA_rd(h:valA P ρ o.op=some v):Rd P o (inst σ ρ) Γ (val σ v):=by
 generalize ho:o.op=op at h
 unfold valA at h
 split at h
 -- fieldAddr
 · split at h
   · rename_i i q hx
     split at h
     ·rename_i k hf;cases h;simp only[val];exact Rd.field ho (evv hx) (fieldA_ok hf)
     ·cases h
   ·cases h
 -- indexAddr
 · split at h
   · rename_i i q j hx hy
     obtain⟨k,hy⟩:=natA_ev (σ:=σ) hy
     split at h
     · rename_i n e size ha
       cases hb:Nat.blt j n with
       |false=>rw[hb]at h;cases h
       |true=>rw[hb]at h;cases h;simp only[val];exact Rd.arrAt ho ha (evv hx) hy (Nat.le_of_ble_eq_true hb)
     ·cases h
   · rename_i u j _ hx hy
     obtain⟨k,hy⟩:=natA_ev (σ:=σ) hy
     split at h
     · rename_i i q l c s hs ht
       cases hb:Nat.blt j l with
       |false=>rw[hb]at h;cases h
       |true=>rw[hb]at h;cases h;simp only[val];exact Rd.slAt ho ht (evsl hx hs) hy (Nat.le_of_ble_eq_true hb)
     ·cases h
   ·cases h
 -- index
 · split at h
   · rename_i s j hx hy
     obtain⟨k,hy⟩:=natA_ev (σ:=σ) hy
     cases hb:strTy P _ with
     |false=>rw[hb]at h;cases h
     | true=>
       rw[hb]at h;simp only[cond_true]at h
       split at h
       ·rename_i b hj;cases h;simp only[val];exact Rd.byteAt ho (strTy_ok hb) (evv hx) hy hj
       ·cases h
   · rename_i cs j hx hy
     obtain⟨k,hy⟩:=natA_ev (σ:=σ) hy
     split at h
     · rename_i n e size ha
       cases hb:Nat.blt j n with
       |false=>rw[hb]at h;cases h
       |true=>rw[hb]at h;exact Rd.part ho ha (evv hx) hy (Nat.le_of_ble_eq_true hb) h
     ·cases h
   ·cases h
 -- field
 · split at h
   ·rename_i cs off e hx hf;exact Rd.fieldOf ho hf (evv hx) h
   ·cases h
 -- build
 · split at h
   · rename_i l hl
     obtain⟨cs,hb,rfl⟩:=Option.map_eq_some_iff.1 h
     obtain⟨h1,h2⟩:=partsA_ok (σ:=σ) hl
     simp only[val]
     exact Rd.build (by rw[ho]) h1 h2 (builtA_ok hb)
   ·cases h
 -- makeFunc
 · split at h
   · rename_i us vs hx hy
     cases h
     simp only[val]
     exact Rd.makeFunc (by rw[ho]) (evs_inst hx) (evs_inst hy)
   ·cases h
 -- slice
 · split at h
   · split at h
     · rename_i s hx
       cases hb:strTy P _ with
       |false=>rw[hb]at h;cases h
       | true=>
         rw[hb]at h;simp only[cond_true]at h
         split at h
         · rename_i a b ha hbb
           cases hq:(Nat.ble a b&&Nat.ble b s.length)with
           |false=>rw[hq]at h;cases h
           | true=>
             rw[hq]at h;cases h
             rw[Bool.and_eq_true]at hq
             simp only[val]
             refine Rd.strSl ho (strTy_ok hb) (evv hx) ?_ ?_ (Nat.le_of_ble_eq_true hq.1) (Nat.le_of_ble_eq_true hq.2)
             · split at ha
               ·cases ha;rfl
               ·exact natA_ev ha
             · split at hbb
               ·cases hbb;rfl
               ·exact natA_ev hbb
         ·cases h
     · rename_i u _ hx
       split at h
       · rename_i i q l c s hs ht
         have hxv:=evsl (σ:=σ) hx hs
         have hti:=sliceI_ok ht σ
         split at h
         · cases h
           rw[slv_val hs]
           exact Rd.sliceAll ho hti hxv
         · split at h
           · rename_i b hn
             obtain⟨k,hy⟩:=natA_ev (σ:=σ) hn
             cases hb:Nat.ble b (capLo c)with
             |false=>rw[hb]at h;cases h
             | true=>
               rw[hb]at h;cases h
               have:=Nat.le_of_ble_eq_true hb
               have h3:=capLo_le (σ:=σ) (c:=c)
               rw[mkSl_val]
               exact Rd.sliceHi ho hti hxv hy (by omega)
           ·cases h
         · split at h
           · rename_i a hn
             obtain⟨k,hy⟩:=natA_ev (σ:=σ) hn
             cases hb:Nat.ble l (capLo c)with
             |false=>rw[hb]at h;cases h
             | true=>
               rw[hb]at h;simp only[cond_true]at h
               exact sliceA_rd ht h (fun r=>Rd P o (inst σ ρ) Γ r) fun h1 _=>Rd.sliceLo ho hti hxv hy h1
           ·cases h
         · split at h
           · rename_i a b hn hm
             obtain⟨k,hy⟩:=natA_ev (σ:=σ) hn
             obtain⟨k',hz⟩:=natA_ev (σ:=σ) hm
             exact sliceA_rd ht h (fun r=>Rd P o (inst σ ρ) Γ r) fun h1 h2=>Rd.sliceLH ho hti hxv hy hz h1 h2
           ·cases h
       ·cases h
     ·cases h
   · split at h
     · split at h
       · rename_i hx hy hz
         obtain⟨k,hy⟩:=natA_ev (σ:=σ) hy
         obtain⟨k',hz⟩:=natA_ev (σ:=σ) hz
         cases hb:(sliceI P _).isSome with
         |false=>rw[hb]at h;cases h
         | true=>
           rw[hb]at h;cases h
           obtain⟨s,hs⟩:=Option.isSome_iff_exists.1 hb
           simp only[val]
           exact Rd.slice3 ho (sliceI_ok hs σ) (evv hx) hy hz (Nat.le_refl _) (Nat.le_refl _)
       · rename_i u b m _ hx hy hz
         obtain⟨k,hy⟩:=natA_ev (σ:=σ) hy
         obtain⟨k',hz⟩:=natA_ev (σ:=σ) hz
         split at h
         · rename_i i q l c s hs ht
           cases hb:(Nat.ble b m&&Nat.ble m (capLo c))with
           |false=>rw[hb]at h;cases h
           | true=>
             rw[hb]at h;cases h
             rw[Bool.and_eq_true]at hb
             have h3:=capLo_le (σ:=σ) (c:=c)
             have h4:=Nat.le_of_ble_eq_true hb.2
             simp only[val]
             exact Rd.slice3 ho (sliceI_ok ht σ) (evsl hx hs) hy hz (Nat.le_of_ble_eq_true hb.1) (by omega)
         ·cases h
       ·cases h
     ·cases h
 -- call
 · rename_i c
   obtain⟨cl,as,ts⟩:=c
   simp only at h
   split at h
   · rename_i x t h1 h2
     have e1:as=#[x]:=by rw[←Array.toList_inj];exact h1
     have e2:ts=#[t]:=by rw[←Array.toList_inj];exact h2
     subst e1 e2
     split at h
     · rename_i u hx
       split at h
       · rename_i i q l c hs
         cases hb:slTy P _ with
         |false=>rw[hb]at h;cases h
         | true=>
           rw[hb]at h;cases h
           obtain⟨e,he⟩:=slTy_ok hb
           simp only[val]
           exact Rd.len ho (evsl hx hs) he
       · split at h
         · rename_i s _
           cases hb:strTy P _ with
           |false=>rw[hb]at h;cases h
           | true=>
             rw[hb]at h;cases h
             simp only[val]
             have hx':=evv (σ:=σ) (u:= .string (bytesOf s)) hx
             exact fun a w ha _=>by unfold execOp;simp[ho,resolve,invoke,builtin,ha.eval hx',Builtin.len_,run_underlying (strTy_ok hb),goInt,bytes_size]
         ·cases h
     ·cases h
   · rename_i x t h1 h2
     have e1:as=#[x]:=by rw[←Array.toList_inj];exact h1
     subst e1
     split at h
     · rename_i u hx
       split at h
       · rename_i i q l c hs
         cases hb:Nat.blt 0 (capLo c)with
         |false=>rw[hb]at h;cases h
         | true=>
           rw[hb]at h;cases h
           have h3:=capLo_le (σ:=σ) (c:=c)
           have h4:cp σ c≠0:=by have:=Nat.le_of_ble_eq_true hb;omega
           have hx':=evsl (σ:=σ) hx hs
           simp only[val]
           exact fun a w ha _=>by unfold execOp;simp[ho,resolve,invoke,builtin,ha.eval hx',run_sliceData h4]
       ·cases h
     ·cases h
   ·cases h
 ·cases h
theorem bel_valA{op:Op}(hk:4096≤k)(hb:belS k ρ)(h:valA P ρ op=some v):bel k v:=by
 unfold valA at h
 split at h
 · split at h
   · rename_i i q hx
     have h2:=bel_aev hk hb hx
     split at h
     ·cases h;simp only[bel]at h2⊢;exact h2
     ·cases h
   ·cases h
 · split at h
   · rename_i i q j hx hy
     have h2:=bel_aev hk hb hx
     split at h
     ·exact bel_bif h (by simp only[bel]at h2⊢;exact h2)
     ·cases h
   · rename_i u j _ hx hy
     have h2:=bel_aev hk hb hx
     split at h
     · rename_i hs _
       exact bel_bif h (by simp only[bel];exact(slv_bel hs h2).1)
     ·cases h
   ·cases h
 · split at h
   · cases hb:strTy P _ with
     |false=>rw[hb]at h;cases h
     | true=>
       rw[hb]at h;simp only[cond_true]at h
       split at h
       ·cases h;simp[bel]
       ·cases h
   · rename_i cs j hx hy
     have h2:=bel_aev hk hb hx
     simp only[bel]at h2
     split at h
     · rename_i n e size ha
       cases hb:Nat.blt j n with
       |false=>rw[hb]at h;cases h
       |true=>rw[hb]at h;exact partA_bel h h2
     ·cases h
   ·cases h
 · split at h
   · rename_i cs off e hx hf
     have h2:=bel_aev hk hb hx
     simp only[bel]at h2
     exact partA_bel h h2
   ·cases h
 · split at h
   · rename_i l hl
     obtain⟨cs,hc,rfl⟩:=Option.map_eq_some_iff.1 h
     simp only[bel]
     exact builtA_bel hc (partsA_bel hk hb hl)
   ·cases h
 · split at h
   · rename_i us vs hx hy
     cases h
     simp only[bel]
     exact⟨bel_aevs hk hb hx,bel_aevs hk hb hy⟩
   ·cases h
 · split at h
   · split at h
     · cases hb:strTy P _ with
       |false=>rw[hb]at h;cases h
       | true=>
         rw[hb]at h;simp only[cond_true]at h
         split at h
         ·exact bel_bif h (by simp only[bel])
         ·cases h
     · rename_i u _ hx
       have h2:=bel_aev hk hb hx
       split at h
       · rename_i i q l c s hs ht
         have h3:=slv_bel hs h2
         split at h
         ·cases h;exact h2
         · split at h
           ·exact bel_bif h (mkSl_bel h3.1 h3.2)
           ·cases h
         · split at h
           · rename_i a hn
             cases hb:Nat.ble l (capLo c)with
             |false=>rw[hb]at h;cases h
             |true=>rw[hb]at h;exact sliceA_bel (l:=l) h h3.1 h3.2
           ·cases h
         · split at h
           ·exact sliceA_bel (l:=l) h h3.1 h3.2
           ·cases h
       ·cases h
     ·cases h
   · split at h
     · split at h
       ·exact bel_bif h (by simp only[bel])
       · rename_i u b m _ hx hy hz
         have h2:=bel_aev hk hb hx
         split at h
         · rename_i i q l c s hs ht
           exact bel_bif h (by simp only[bel];exact(slv_bel hs h2).1)
         ·cases h
       ·cases h
     ·cases h
 · split at h
   · split at h
     · split at h
       ·exact bel_bif h (by simp only[bel])
       · split at h
         ·exact bel_bif h (by simp only[bel])
         ·cases h
     ·cases h
   · split at h
     · rename_i u hx
       have h2:=bel_aev hk hb hx
       split at h
       · rename_i i q l c hs
         exact bel_bif h (by simp only[bel];exact(slv_bel hs h2).1)
       ·cases h
     ·cases h
   ·cases h
 ·cases h
end
inductive Res where
 |val (v:AV)
 |up (M:List MC)
 |mk (v:AV) (N:List MC) (k:Nat)
 |ge (v:AV) (M:List MC) (k:Nat)
def Sup(k:Nat)(σ σ':Nat→Nat):Prop:=∀i,i<k→σ i=σ' i
def Outs(k:Nat)(σ:Nat→Nat)(v:AV)(M:List MC)(u:Value)(Γ:List Chunk):Prop:=∃σ',Sup k σ σ'∧u=val σ' v∧Γ=mem σ' M
def ResOk(P:Program)(o:Oper)(ρ:ASlots)(M:List MC)(k:Nat):Res→Prop
 | .val v=>bel k v∧∀σ,Rd P o (inst σ ρ) (mem σ M) (val σ v)
 | .up M'=>belM k M'∧∀σ,Up P o (inst σ ρ) (mem σ M) (mem σ M')
 | .mk v N k'=>k≤k'∧bel k' v∧belM k' N∧∀σ,Mk P o (inst σ ρ) (mem σ M) (Outs k σ v N)
 | .ge v M' k'=>k≤k'∧bel k' v∧belM k' M'∧∀σ,Ge P o (inst σ ρ) (mem σ M) (Outs k σ v M')
def readA (P:Program)(ρ:ASlots)(M:List MC):Op→Option AV
 | .load ty x=>match aev ρ x with
   | some (.ptr i o)=>match find M i with
     | some (_,c)=>match cellsM c with
       | some cs=>match rowN P ty with
         |some n=>bif Nat.ble (o+n) cs.length then some (.agg (subA cs o n))else none
         |none=>bif cellB P ty then cs[o]? else none
       |none=>none
     |none=>none
   |_=>none
 | .convert s d x=>match aev ρ x with
   | some (.ptr i q)=>match find M i with
     | some (_,c)=>match c.kd with
       | .box e=>match P.underlying s,P.underlying d with
         | some (.pointer t),some .unsafePointer=>match P.info? t with
           |some j=>bif !Nat.beq j.size 0&&Nat.blt q c.cs.length then some (.ptr i q)else none
           |none=>none
         |some .unsafePointer,some (.pointer t)=>bif (P.info? t).isSome&&liesAt P P.depth e (c.cs.length/P.cellsOf e) q t 1 then some (.ptr i q)else none
         |_,_=>none
       |_=>none
     |none=>none
   |_=>none
 | .call c=>match c.callee,c.args.toList,c.argTypes.toList with
   | .builtin .len,[x],[t]=>match aev ρ x with
     | some (.mp i)=>match find M i,P.underlying t with
       | some (_,c),some (.map _ _)=>match c.kd with
         | .maps m=>some (.int .i64 (Int.ofNat m.length))
         |_=>none
       |_,_=>none
     |_=>none
   |_,_,_=>none
 |_=>none
def asetA:List (List Nat×AV)→List Nat→AV→List (List Nat×AV)
 |[],x,v=>[(x,v)]
 |(y,u)::r,x,v=>bif eqStr x y then(x,v)::r else(y,u)::asetA r x v
def upA (P :Program)(ρ:ASlots)(M:List MC):Op→Option (List MC)
 | .store ty x y=>match aev ρ x,aev ρ y with
   | some (.ptr i o),some v=>match find M i with
     | some (j,c)=>match rowN P ty with
       | some n=>match v with
         | .agg us=>bif Nat.beq us.length n&&us.all one then(match putM c o us with
           |some c'=>some (M.set j c')
           |none=>none)else none
         |_=>none
       |none=>bif cellB P ty&&one v then(match putM c o [v]with
           |some c'=>some (M.set j c')
           |none=>none)else none
     |none=>none
   |_,_=>none
 | .mapUpdate t x y z=>match aev ρ x,aev ρ y,aev ρ z with
   | some (.mp i),some (.str s),some v=>match find M i,P.underlying t with
     | some (j,c),some (.map K _)=>match c.kd with
       | .maps m=>bif strTy P K then some (M.set j ⟨c.i, .maps (asetA m s v),c.cs⟩)else none
       |_=>none
     |_,_=>none
   |_,_,_=>none
 |_=>none
section
variable{P:Program}{o:Oper}{ρ:ASlots}{M M':List MC}{σ:Nat→Nat}{v:AV}{k:Nat}
theorem cellsM_bel{c:MC}{cs:List AV}(h:cellsM c=some cs)(hc:belMC k c):bels k cs:=by
 obtain⟨i,kd,cs'⟩:=c
 unfold cellsM at h
 cases kd<;>first|(cases h;done)|(cases h;exact hc.cs)
theorem sub1A{cs:List AV}{q:Nat}{u:AV}(h:cs[q]?=some u):subA cs q 1=[u]:=by
 have hlt:q<cs.length:=(List.getElem?_eq_some_iff.1 h).1
 unfold subA
 rw[List.drop_eq_getElem_cons hlt,(List.getElem?_eq_some_iff.1 h).2];rfl
theorem readA_ok(hk:4096≤k)(hb:belS k ρ)(hM:belM k M)(h:readA P ρ M o.op=some v):ResOk P o ρ M k (.val v):=by
 generalize ho:o.op=op at h
 unfold readA at h
 split at h
 · rename_i ty x
   split at h
   · rename_i i q hx
     split at h
     · rename_i j c hf
       split at h
       · rename_i cs hc
         have hbc:=cellsM_bel hc (hM c (find_mem hf))
         have hi:=(find_get hf).2
         split at h
         · rename_i n hr
           cases hq:Nat.ble (q+n) cs.length with
           |false=>rw[hq]at h;cases h
           | true=>
             rw[hq]at h;cases h
             refine⟨by simp only[bel];exact bels_sub hbc,fun σ=>?_⟩
             have hx':=evv (σ:=σ) hx
             rw[←hi]at hx'
             have:=Rd.lS ho hx' (rowN_ok hr) (mem_at (σ:=σ) hf) (ck_gives hc q n) (by rw[vals_len,subA_len hq])
             simpa only[val]using this
         · cases hcl:cellB P ty with
           |false=>rw[hcl]at h;cases h
           | true=>
             rw[hcl]at h;simp only[cond_true]at h
             refine⟨bel_get hbc h,fun σ=>?_⟩
             have hx':=evv (σ:=σ) hx
             rw[←hi]at hx'
             have hg:=ck_gives (σ:=σ) hc q 1
             rw[sub1A h]at hg
             exact Rd.ld ho hx' (cellB_ok hcl) (mem_at (σ:=σ) hf) hg
       ·cases h
     ·cases h
   ·cases h
 · rename_i s d x
   split at h
   · rename_i i q hx
     have hbx:=bel_aev hk hb hx
     split at h
     · rename_i j c hf
       have hi:=(find_get hf).2
       split at h
       · rename_i e hc
         have hsh:∀σ w,oks (mem σ M) w→w.shape? (bl σ i)=some (e,c.cs.length):=fun σ w hw=>by
          have h1:=hw _ (mog (mem_at (σ:=σ) hf))
          unfold ck at h1
          rw[hc]at h1
          have h2:w.heap[bl σ c.i]?=some (.cells (vals σ c.cs).toArray e (0,0)):=h1
          rw[hi]at h2
          simp[World.shape?,h2,vals_len]
         split at h
         · rename_i t hs hd
           split at h
           · rename_i jt hj
             cases hq:(!Nat.beq jt.size 0&&Nat.blt q c.cs.length)with
             |false=>rw[hq]at h;cases h
             | true=>
               rw[hq]at h;cases h
               rw[Bool.and_eq_true]at hq
               refine⟨hbx,fun σ=>fun a w ha hw=>?_⟩
               have hx':=evv (σ:=σ) hx
               have h0:jt.size≠0:=fun e=>by rw[e]at hq;simp at hq
               unfold execOp
               simp only[ho,ha.eval hx',Sem.run_bind,Lib.run_to_unsafe w ⟨bl σ i,q,none⟩ hs hd hj h0 (hsh σ w hw) (Nat.le_of_ble_eq_true hq.2),Result.andThen_ok,Sem.run_pure,val]
           ·cases h
         · rename_i t hs hd
           cases hq:((P.info? t).isSome&&liesAt P P.depth e (c.cs.length/P.cellsOf e) q t 1)with
           |false=>rw[hq]at h;cases h
           | true=>
             rw[hq]at h;cases h
             rw[Bool.and_eq_true]at hq
             obtain⟨jt,hj⟩:=Option.isSome_iff_exists.1 hq.1
             refine⟨hbx,fun σ=>fun a w ha hw=>?_⟩
             have hx':=evv (σ:=σ) hx
             unfold execOp
             simp only[ho,ha.eval hx',Sem.run_bind,Lib.run_from_unsafe w ⟨bl σ i,q,none⟩ hs hd hj (hsh σ w hw) hq.2,Result.andThen_ok,Sem.run_pure,val]
         ·cases h
       ·cases h
     ·cases h
   ·cases h
 · rename_i c
   obtain⟨cl,as,ts⟩:=c
   simp only at h
   split at h
   · rename_i x t h1 h2
     have e1:as=#[x]:=by rw[←Array.toList_inj];exact h1
     have e2:ts=#[t]:=by rw[←Array.toList_inj];exact h2
     subst e1 e2
     split at h
     · rename_i i hx
       split at h
       · rename_i j c K E hf hu
         have hi:=(find_get hf).2
         split at h
         · rename_i m hc
           cases h
           refine⟨by simp only[bel],fun σ=>fun a w ha hw=>?_⟩
           have hx':=evv (σ:=σ) hx
           have h1:=hw _ (mog (mem_at (σ:=σ) hf))
           unfold ck at h1
           rw[hc]at h1
           obtain⟨es,clock,h3,h4⟩:=h1
           rw[hi]at h3
           have h5:es.size=m.length:=by
            have:=congrArg List.length h4
            simpa[entries,pairs,prs]using this
           unfold execOp
           simp[ho,resolve,invoke,builtin,ha.eval hx',Builtin.len_,run_underlying hu,getObj,Sem.run,h3,goInt,h5,val]
         ·cases h
       ·cases h
     ·cases h
   ·cases h
 ·cases h
theorem bytes_beq(a b:ByteArray):(a==b)=decide (a=b):=by
 obtain⟨x⟩:=a
 obtain⟨y⟩:=b
 show(x==y)=_
 rw[Bool.eq_iff_iff,beq_iff_eq,decide_eq_true_eq]
 constructor
 ·intro h;rw[h]
 ·intro h;exact congrArg ByteArray.data h
theorem KeyTy.str{K:TypeId}(h:P.underlying K=some .string):KeyTy P K (fun b:ByteArray=> .string b) where
 same a b w:=by
  show(Op.equalIn (9999+1) K (.string a) (.string b)).run P w=_
  rw[run_equalIn_string (w:=w) 9999 K a b h]
  congr 1
  rw[ByteArray.toList_eq,ByteArray.toList_eq,Bool.eq_iff_iff,beq_iff_eq,decide_eq_true_eq]
  constructor
  ·intro h;exact ByteArray.ext (Array.toList_inj.1 h)
  ·intro h;rw[h]
 now d hd:=by
  rw[h]at hd
  obtain rfl:=Option.some.inj hd
  refine .inr fun a b=>?_
  simp only[Instr.sameNow]
  congr 1
  rw[bytes_beq]
 und:=⟨_,h⟩
 check e a w:=by
  show(Instr.checkKey e (9999+1) K (.string a)).run P w=_
  unfold Instr.checkKey
  simp[run_underlying h]
 bits a:=by show Instr.sameBits 10000 (.string a) (.string a)=true;simp[Instr.sameBits,bytes_beq]
theorem bytesOf_inj{a b:List Nat}:bytesOf a=bytesOf b↔eqStr a b=true:=by
 rw[←eqStr_ok,beq_iff_eq,←bytes_toList,←bytes_toList]
 constructor
 ·intro h;rw[h]
 · intro h
   rw[ByteArray.toList_eq,ByteArray.toList_eq]at h
   exact ByteArray.ext (Array.toList_inj.1 h)
theorem asetA_prs{m:List (List Nat×AV)}{x:List Nat}:prs σ (asetA m x v)=aset (prs σ m) (bytesOf x) (val σ v):=by
 induction m with
 |nil=>rfl
 | cons p r ih=>
   obtain⟨y,u⟩:=p
   unfold asetA
   show _=aset ((bytesOf y,val σ u)::prs σ r) (bytesOf x) (val σ v)
   cases he:eqStr x y with
   | true=>
     have:=bytesOf_inj.2 he
     simp[prs,aset,this]
   | false=>
     have:bytesOf x≠bytesOf y:=fun e=>by rw[bytesOf_inj.1 e]at he;cases he
     simp only[cond_false,aset,if_neg this,←ih]
     rfl
theorem asetA_bel{m:List (List Nat×AV)}{x:List Nat}(h:∀p∈m,bel k p.2)(hv:bel k v):∀p∈asetA m x v,bel k p.2:=by
 induction m with
 |nil=>intro p hp;rw[List.mem_singleton.1 hp];exact hv
 | cons q r ih=>
   obtain⟨y,u⟩:=q
   intro p hp
   unfold asetA at hp
   cases he:eqStr x y with
   | true=>
     rw[he]at hp
     rcases List.mem_cons.1 hp with rfl|hp
     ·exact hv
     ·exact h p (List.mem_cons_of_mem _ hp)
   | false=>
     rw[he]at hp
     rcases List.mem_cons.1 hp with rfl|hp
     ·exact h _ (List.mem_cons_self ..)
     ·exact ih (fun p hp=>h p (List.mem_cons_of_mem _ hp)) p hp
theorem all_one{us:List AV}(h:us.all one=true):(vals σ us).all (·.oneCell')=true:=by
 rw[vals_map,List.all_map,List.all_eq_true]
 intro z hz
 exact one_val σ (List.all_eq_true.1 h z hz)
theorem upA_ok (hk:4096≤k)(hb:belS k ρ)(hM:belM k M)(h:upA P ρ M o.op=some M'):ResOk P o ρ M k (.up M'):=by
 generalize ho:o.op=op at h
 unfold upA at h
 split at h
 · rename_i ty x y
   split at h
   · rename_i i q v hx hy
     have hv:=bel_aev hk hb hy
     split at h
     · rename_i j c hf
       have hi:=(find_get hf).2
       have hc:=hM c (find_mem hf)
       split at h
       · rename_i n hr
         split at h
         · rename_i us
           cases hq:(Nat.beq us.length n&&us.all one)with
           |false=>rw[hq]at h;cases h
           | true=>
             rw[hq]at h;simp only[cond_true]at h
             rw[Bool.and_eq_true]at hq
             split at h
             · rename_i c' hp
               cases h
               simp only[bel]at hv
               obtain⟨g1,g2⟩:=putM_bel hp hc hv
               refine⟨belM_set hM g1,fun σ=>?_⟩
               have hx':=evv (σ:=σ) hx
               have hy':=evv (σ:=σ) hy
               rw[←hi]at hx'
               rw[mem_set]
               exact Up.storeS ho hx' hy' (rowN_ok hr) (by rw[vals_len];exact Nat.eq_of_beq_eq_true hq.1) (all_one hq.2) (mem_at hf) (putM_ok hp)
             ·cases h
         ·cases h
       · cases hq:(cellB P ty&&one v)with
         |false=>rw[hq]at h;cases h
         | true=>
           rw[hq]at h;simp only[cond_true]at h
           rw[Bool.and_eq_true]at hq
           split at h
           · rename_i c' hp
             cases h
             obtain⟨g1,g2⟩:=putM_bel hp hc (by simp only[bels];exact⟨hv,trivial⟩)
             refine⟨belM_set hM g1,fun σ=>?_⟩
             have hx':=evv (σ:=σ) hx
             have hy':=ev_inst (σ:=σ) hy
             rw[←hi]at hx'
             rw[mem_set]
             exact Up.store ho hx' hy' (cellB_ok hq.1) (one_val σ hq.2) (mem_at hf) (putM_ok hp)
           ·cases h
     ·cases h
   ·cases h
 · rename_i t x y z
   split at h
   · rename_i i s v hx hy hz
     have hv:=bel_aev hk hb hz
     split at h
     · rename_i j c K E hf hu
       have hi:=(find_get hf).2
       have hc:=hM c (find_mem hf)
       split at h
       · rename_i m hkd
         cases hq:strTy P K with
         |false=>rw[hq]at h;cases h
         | true=>
           rw[hq]at h;cases h
           have hm:=hc.kd
           rw[hkd]at hm
           refine⟨belM_set hM ⟨hc.pl,asetA_bel hm hv,hc.cs⟩,fun σ=>?_⟩
           have hx':=evv (σ:=σ) hx
           have hy':=evv (σ:=σ) hy
           have hz':=ev_inst (σ:=σ) hz
           rw[←hi]at hx'
           have hg:=mem_at (σ:=σ) hf
           have e1:ck σ c=mapc (fun b:ByteArray=> .string b) (fun v:Value=>v) (bl σ c.i) (prs σ m):=by unfold ck;rw[hkd]
           have e2:ck σ ⟨c.i, .maps (asetA m s v),c.cs⟩=mapc (fun b:ByteArray=> .string b) (fun v:Value=>v) (bl σ c.i) (aset (prs σ m) (bytesOf s) (val σ v)):=by unfold ck;simp only[asetA_prs]
           rw[e1]at hg
           rw[mem_set,e2]
           exact Up.mapUpdate (KeyTy.str (strTy_ok hq)) ho hu hx' hy' hz' hg
       ·cases h
     ·cases h
   ·cases h
 ·cases h
end
end Go.In

/- Own text. -/
import Derived.Test.YtihgdnjkofpgiaaGreatDoorL3
import Derived.Laws.Strings2
import Derived.Laws.Concat
import Derived.Lib.Builder
set_option linter.unusedVariables false
set_option linter.unusedSimpArgs false
namespace Go.In
open Go.RowKit Go.Flow Go.Mem Go.Sep
inductive AV where
 |bool (b:Bool)
 |int (k:IntKind) (n:Int)
 |str (s:List Nat)
 |ptr (i off:Nat)
 |nilp
 |sl (i off len cap:Nat)
 |slu (i off len c d:Nat)
 |nils
 |mp (i:Nat)
 |nilm
 |nilf
 |nili
 |und
 |fn (f:FuncId) (fst cap:List AV)
 |ifc (t:tI) (v:AV)
 |agg (l:List AV)
 |tup (l:List AV)
def bl(σ:Nat→Nat)(i:Nat):Nat:=bif Nat.blt i 4096 then i else σ i
def fT(l:List Nat):yB:=⟨(l.map UInt8.ofNat).toArray⟩
mutual
def val(σ:Nat→Nat):AV→vU
 | .bool b=> .bool b
 | .int k n=> .int k n
 | .str s=> .string (fT s)
 | .ptr i o=> .pointer (some ⟨bl σ i,o,none⟩)
 | .nilp=> .pointer none
 | .sl i o l c=> .slice (some ⟨bl σ i,o,none⟩) l c
 | .slu i o l c d=> .slice (some ⟨bl σ i,o,none⟩) l (d+σ c)
 | .nils=> .slice none 0 0
 | .mp i=> .map (some (bl σ i))
 | .nilm=> .map none
 | .nilf=> .nilFunc
 | .nili=> .nilIface
 | .und=>undef
 | .fn f fst cap=> .func (.func f) (Dp σ fst).toArray (Dp σ cap).toArray
 | .ifc t v=> .iface t (val σ v)
 | .agg l=> .agg (Dp σ l).toArray
 | .tup l=> .tuple (Dp σ l).toArray
def Dp(σ:Nat→Nat):List AV→List vU
 |[]=>[]
 |v::l=>val σ v::Dp σ l
end
abbrev Dq:=List (Nat×AV)
def Tg:Dq→Nat→oP AV
 |[],_=>none
 |(k,v)::r,t=>bif Nat.beq k t then some v else Tg r t
def ofc:vU→oP AV
 | .bool b=>some (.bool b)
 | .int k n=>some (.int k n)
 | .string s=>some (.str (s.data.toList.map UInt8.toNat))
 | .pointer none=>some .nilp
 | .slice none 0 0=>some .nils
 | .map none=>some .nilm
 | .nilFunc=>some .nilf
 | .nilIface=>some .nili
 |_=>none
def lT:List vU→oP (List AV)
 |[]=>some []
 | u::r=>match ofc u,lT r with
   |some v,some l=>some (v::l)
   |_,_=>none
def back:vU→oP AV
 | .tuple l=>(lT l.toList).map .tup
 | .agg l=>(lT l.toList).map .agg
 |u=>ofc u
def aev(ρ:Dq):Operand→oP AV
 | .tmp t=>Tg ρ t
 | .const v=>back v
 | .global g=>bif Nat.blt g 4096 then some (.ptr g 0)else none
 | .func f=>some (.fn f [] [])
def qC(ρ:Dq):List Operand→oP (List AV)
 |[]=>some []
 | x::r=>match aev ρ x,qC ρ r with
   |some v,some l=>some (v::l)
   |_,_=>none
def Jp(σ:Nat→Nat)(ρ:Dq):Bo:=ρ.map fun p=>(p.1,val σ p.2)
theorem Eg(σ:Nat→Nat):∀l:List AV,Dp σ l=l.map (val σ)
 |[]=>by simp only[Dp,aQz]
 |v::l=>by simp only[Dp,aQd,Eg σ l]
theorem Qa(σ:Nat→Nat):∀{ρ:Dq} {t:Nat} {v:AV},Tg ρ t=some v→Sep.look (Jp σ ρ) t=some (val σ v)
 |[],_,_,h=>by simp[Tg]at h
 | (k,u)::r,t,v,h=>by
   unfold Tg at h;show(bif Nat.beq k t then some (val σ u)else Sep.look (Jp σ r) t)=_;cases hb:Nat.beq k t with
   |true=>rw[hb]at h;simp only[aQw,aPt]at h⊢;rw[h]
   |false=>rw[hb]at h;simp only[cond_false]at h⊢;exact Qa σ h
theorem ED(s:yB):fT (s.data.toList.map UInt8.toNat)=s:=by
 obtain⟨⟨l⟩⟩:=s;unfold fT;simp[aRt,Function.comp_def]
theorem IY{σ:Nat→Nat}{u:vU}{v:AV}(h:ofc u=some v):u=val σ v:=by
 unfold ofc at h;split at h<;>first|(simp only[aPt]at h;subst h;simp[val,ED])|cases h
theorem Xu{σ:Nat→Nat}:∀{us:List vU} {l:List AV},lT us=some l→us=Dp σ l
 |[],l,h=>by simp only[lT,aPt]at h;subst h;rfl
 | u ::r,l,h=>by
   unfold lT at h;split at h
   · rename_i v l' h1 h2
     simp only[aPt]at h;subst h;simp only[Dp,←IY (σ:=σ) h1,←Xu (σ:=σ) h2]
   ·cases h
theorem Xv{u:vU}{v:AV}(h:back u=some v)(σ:Nat→Nat):u=val σ v:=by
 unfold back at h;split at h
 · rename_i l
   obtain⟨l',h1,rfl⟩:=aPy.1 h;simp only[val,←Xu (σ:=σ) h1]
 · rename_i l
   obtain⟨l',h1,rfl⟩:=aPy.1 h;simp only[val,←Xu (σ:=σ) h1]
 ·exact IY h
theorem Ij{σ:Nat→Nat}{ρ:Dq}{x:Operand}{v:AV}(h:aev ρ x=some v):ev (Jp σ ρ) x=some (val σ v):=by
 cases x with
 |tmp t=>exact Qa σ h
 |const u=>exact aPe some (Xv h σ)
 | global g=>
   have h:(bif Nat.blt g 4096 then some (AV.ptr g 0)else none)=some v:=h;cases hb:Nat.blt g 4096 with
   |false=>rw[hb]at h;cases h
   |true=>rw[hb]at h;simp only[aQw,aPt]at h;subst h;simp only[ev,val,bl,hb,aQw]
 |func f=>simp only[aev,aPt]at h;subst h;simp[ev,val,Dp]
theorem bY{σ:Nat→Nat}{ρ:Dq}:∀{xs:List Operand} {l:List AV},qC ρ xs=some l→evs (Jp σ ρ) xs=some (Dp σ l)
 |[],l,h=>by simp only[qC,aPt]at h;subst h;simp[evs,Dp]
 | x ::r,l,h=>by
   unfold qC at h;split at h
   · rename_i v l' h1 h2
     simp only[aPt]at h;subst h;simp only[evs,Ij (σ:=σ) h1,bY (σ:=σ) h2,Dp]
   ·cases h
mutual
def bel(k:Nat):AV→Prop
 | .ptr i _=>i<k
 | .sl i _ _ _=>i<k
 | .slu i _ _ c _=>i<k∧c<k
 | .mp i=>i<k
 | .fn _ fst cap=>Es k fst∧Es k cap
 | .ifc _ v=>bel k v
 | .agg l=>Es k l
 | .tup l=>Es k l
 |_=>True
def Es(k:Nat):List AV→Prop
 |[]=>True
 |v::l=>bel k v∧Es k l
end
theorem Mj{k:Nat}:∀{l:List AV},Es k l↔ ∀v∈l,bel k v
 |[]=>by simp[Es]
 |v::l=>by simp only[Es,aPi,forall_eq_or_imp,Mj (l:=l)]
theorem Vm{k:Nat}{σ σ':Nat→Nat}(he:∀i,i<k→σ i=σ' i){i:Nat}(h:i<k):bl σ i=bl σ' i:=by unfold bl;rw[he i h]
mutual
theorem Zf{k:Nat}{σ σ':Nat→Nat}(he:∀i,i<k→σ i=σ' i):∀v:AV,bel k v→val σ v=val σ' v
 | .ptr i _,h=>by simp only[bel]at h;simp only[val,Vm he h]
 | .sl i _ _ _,h=>by simp only[bel]at h;simp only[val,Vm he h]
 | .slu i _ _ c _,h=>by simp only[bel]at h;simp only[val,Vm he h.1,he c h.2]
 | .mp i,h=>by simp only[bel]at h;simp only[val,Vm he h]
 | .fn _ fst cap,h=>by simp only[bel]at h;simp only[val,Na he fst h.1,Na he cap h.2]
 | .ifc _ v,h=>by simp only[bel]at h;simp only[val,Zf he v h]
 | .agg l,h=>by simp only[bel]at h;simp only[val,Na he l h]
 | .tup l,h=>by simp only[bel]at h;simp only[val,Na he l h]
 | .bool _,_=>by simp only[val]
 | .int _ _,_=>by simp only[val]
 | .str _,_=>by simp only[val]
 | .nilp,_=>by simp only[val]
 | .nils,_=>by simp only[val]
 | .nilm,_=>by simp only[val]
 | .nilf,_=>by simp only[val]
 | .nili,_=>by simp only[val]
 | .und,_=>by simp only[val]
theorem Na{k:Nat}{σ σ':Nat→Nat}(he:∀i,i<k→σ i=σ' i):∀l:List AV,Es k l→Dp σ l=Dp σ' l
 |[],_=>by simp only[Dp]
 |v::l,h=>by simp only[Es]at h;simp only[Dp,Zf he v h.1,Na he l h.2]
end
mutual
theorem uT{k k':Nat}(hk:k≤k'):∀v:AV,bel k v→bel k' v
 | .ptr i _,h=>by simp only[bel]at h⊢;omega
 | .sl i _ _ _,h=>by simp only[bel]at h⊢;omega
 | .slu i _ _ _ _,h=>by simp only[bel]at h⊢;omega
 | .mp i,h=>by simp only[bel]at h⊢;omega
 | .fn _ fst cap,h=>by simp only[bel]at h⊢;exact⟨Ph hk fst h.1,Ph hk cap h.2⟩
 | .ifc _ v,h=>by simp only[bel]at h⊢;exact uT hk v h
 | .agg l,h=>by simp only[bel]at h⊢;exact Ph hk l h
 | .tup l,h=>by simp only[bel]at h⊢;exact Ph hk l h
 | .bool _,_=>by simp only[bel]
 | .int _ _,_=>by simp only[bel]
 | .str _,_=>by simp only[bel]
 | .nilp,_=>by simp only[bel]
 | .nils,_=>by simp only[bel]
 | .nilm,_=>by simp only[bel]
 | .nilf,_=>by simp only[bel]
 | .nili,_=>by simp only[bel]
 | .und,_=>by simp only[bel]
theorem Ph{k k':Nat}(hk:k≤k'):∀l:List AV,Es k l→Es k' l
 |[],_=>by simp only[Es]
 |v::l,h=>by simp only[Es]at h⊢;exact⟨uT hk v h.1,Ph hk l h.2⟩
end
def Rk(k:Nat)(ρ:Dq):Prop:=∀p∈ρ,bel k p.2
theorem Qo{k:Nat}{σ σ':Nat→Nat}(he:∀i,i<k→σ i=σ' i){ρ:Dq}(h:Rk k ρ):Jp σ ρ=Jp σ' ρ:=by
 unfold Jp;exact List.map_congr_left fun p hp=>by rw[Zf he p.2 (h p hp)]
theorem bZ{k:Nat}:∀{ρ:Dq} {t:Nat} {v:AV},Rk k ρ→Tg ρ t=some v→bel k v
 |[],_,_,_,h=>by simp[Tg]at h
 | (i,u)::r,t,v,hb,h=>by
   unfold Tg at h;cases hi:Nat.beq i t with
   |true=>rw[hi]at h;simp only[aQw,aPt]at h;subst h;exact hb _ (aPc ..)
   |false=>rw[hi]at h;simp only[cond_false]at h;exact bZ (fun p hp=>hb p (aPb _ hp)) h
theorem IZ{k:Nat}{u:vU}{v:AV}(h:ofc u=some v):bel k v:=by
 unfold ofc at h;split at h<;>first|(simp only[aPt]at h;subst h;simp[bel])|cases h
theorem Um{k:Nat}:∀{us:List vU} {l:List AV},lT us=some l→Es k l
 |[],l,h=>by simp only[lT,aPt]at h;subst h;simp[Es]
 | u ::r,l,h=>by
   unfold lT at h;split at h
   · rename_i v l' h1 h2
     simp only[aPt]at h;subst h;simp only[Es];exact⟨IZ h1,Um h2⟩
   ·cases h
theorem Xw{u:vU}{v:AV}{k:Nat}(h:back u=some v):bel k v:=by
 unfold back at h;split at h
 · obtain⟨l',h1,rfl⟩:=aPy.1 h
   simp only[bel];exact Um h1
 · obtain⟨l',h1,rfl⟩:=aPy.1 h
   simp only[bel];exact Um h1
 ·exact IZ h
theorem Gv{k:Nat}(hk:4096≤k){ρ:Dq}{x:Operand}{v:AV}(hb:Rk k ρ)(h:aev ρ x=some v):bel k v:=by
 cases x with
 |tmp t=>exact bZ hb h
 |const u=>exact Xw h
 | global g=>
   have h':(bif Nat.blt g 4096 then some (AV.ptr g 0)else none)=some v:=h;cases hg:Nat.blt g 4096 with
   |false=>rw[hg]at h';cases h'
   | true=>
     rw[hg]at h';simp only[aQw,aPt]at h';subst h';simp only[bel];exact aRz (aPd hg) hk
 |func f=>simp only[aev,aPt]at h;subst h;simp[bel,Es]
theorem cK{k:Nat}(hk:4096≤k){ρ:Dq}(hb:Rk k ρ):∀{xs:List Operand} {l:List AV},qC ρ xs=some l→Es k l
 |[],l,h=>by simp only[qC,aPt]at h;subst h;simp[Es]
 | x ::r,l,h=>by
   unfold qC at h;split at h
   · rename_i v l' h1 h2
     simp only[aPt]at h;subst h;simp only[Es];exact⟨Gv hk hb h1,cK hk hb h2⟩
   ·cases h
def one:AV→Bool
 | .agg _=>false
 | .tup _=>false
 | .und=>false
 |_=>true
theorem uU(σ:Nat→Nat){v:AV}(h:one v=true):(val σ v).oneCell'=true:=by
 cases v<;>first|(simp only[val];rfl)|(exact Bool.noConfusion h)
def RX(P:pG)(ty:tI):oP Nat:=
 match P.underlying ty with
 |some d=>bif d.isRow then(P.info? ty).map (·.size)else none
 |none=>none
def cO(P:pG)(ty:tI):Bool:=
 match P.underlying ty with
 | some d=>bif d.isRow then false else match P.info? ty with
   |some i=>Nat.beq i.size 1
   |none=>false
 |none=>false
def fM(P:pG)(ty:tI):oP (List AV):=
 match P.info? ty with
 | some i=>match i.zero with
   |some z=>lT z.cells.toList
   |none=>none
 |none=>none
def EE(P:pG)(s:tI)(f:Nat):oP Nat:=
 match P.underlying s with
 | some (.struct fs)=>match fs[f]? with
   | some fd=>match P.info? fd.type with
     |some i=>bif Nat.blt 0 i.size then some fd.offset else none
     |none=>none
   |none=>none
 |_=>none
structure SI where
 e:Nat
 size:Nat
 bytes:Nat
 zs:List AV
def Pi(P:pG)(t:tI):oP SI:=
 match P.underlying t with
 | some (.slice e)=>match P.info? e with
   | some i=>match i.zero with
     | some z=>match lT z.cells.toList with
       |some zs=>bif Nat.beq zs.length i.size&&Nat.blt 0 i.size&&zs.all one then some ⟨e,i.size,i.bytes,zs⟩else none
       |none=>none
     |none=>none
   |none=>none
 |_=>none
def MH(P:pG)(t:tI):oP (Nat×Nat×Nat):=
 match P.underlying t with
 |some (.array n e)=>(P.info? e).map fun i=>(n,e,i.size)
 |_=>none
section
variable{P:pG}{σ:Nat→Nat}
theorem uV{ty:tI}{n:Nat}(h:RX P ty=some n):Fu P ty n:=by
 unfold RX at h;split at h
 · rename_i d hd
   cases hr:d.isRow with
   |true=>rw[hr]at h;exact Fu.of hd hr h
   |false=>rw[hr]at h;cases h
 ·cases h
theorem lU{ty:tI}(h:cO P ty=true):Ci P ty:=by
 unfold cO at h;split at h
 · rename_i d hd
   cases hr:d.isRow with
   |true=>rw[hr]at h;cases h
   | false=>
     rw[hr]at h;simp only[cond_false]at h;split at h
     ·rename_i i hi;exact Ci.of hd hr (by rw[hi];exact aPe some (aPp h))
     ·cases h
 ·cases h
theorem fO{ty:tI}{zs:List AV}(h:fM P ty=some zs)(σ:Nat→Nat):Dw P ty (Dp σ zs):=by
 unfold fM at h;split at h
 · rename_i i hi
   split at h
   · rename_i z hz
     refine⟨?_⟩;rw[hi,←Xu (σ:=σ) h];simp[hz]
   ·cases h
 ·cases h
theorem Xx{ty:tI}{zs:List AV}{k:Nat}(h:fM P ty=some zs):Es k zs:=by
 unfold fM at h;split at h
 · split at h
   ·exact Um h
   ·cases h
 ·cases h
theorem MI{s:tI}{f k:Nat}(h:EE P s f=some k):Rj P s f k:=by
 unfold EE at h;split at h
 · rename_i fs hs
   split at h
   · rename_i fd hf
     split at h
     · rename_i i hi
       cases hb:Nat.blt 0 i.size with
       |false=>rw[hb]at h;cases h
       |true=>rw[hb]at h;cases h;exact⟨fs,fd,i,hs,hf,rfl,hi,aPd hb⟩
     ·cases h
   ·cases h
 ·cases h
theorem Kb{t:tI}{s:SI}(h:Pi P t=some s)(σ:Nat→Nat):Cj P t s.e s.size s.bytes (Dp σ s.zs):=by
 unfold Pi at h;split at h
 · rename_i e ht
   split at h
   · rename_i i hi
     split at h
     · rename_i z hz
       split at h
       · rename_i zs hzs
         cases hb:(Nat.beq zs.length i.size&&Nat.blt 0 i.size&&zs.all one)with
         |false=>rw[hb]at h;cases h
         | true=>
           rw[hb]at h;cases h;simp only[aPk]at hb;obtain⟨⟨h1,h2⟩,h3⟩:=hb;refine⟨ht,⟨i,z,hi,hz,rfl,rfl,?_⟩,?_,aPd h2,?_⟩
           ·rw[←Xu (σ:=σ) hzs]
           ·rw[Eg,aPg];exact aPp h1
           · intro u hu
             rw[Eg]at hu;obtain⟨v,hv,rfl⟩:=aPx.1 hu;exact uU σ (aRd.1 h3 v hv)
       ·cases h
     ·cases h
   ·cases h
 ·cases h
theorem xO{t:tI}{s:SI}{k:Nat}(h:Pi P t=some s):Es k s.zs:=by
 unfold Pi at h;split at h
 · split at h
   · split at h
     · split at h
       · rename_i zs hzs
         cases hb:(Nat.beq zs.length _&&Nat.blt 0 _&&zs.all one)with
         |false=>rw[hb]at h;cases h
         |true=>rw[hb]at h;cases h;exact Um hzs
       ·cases h
     ·cases h
   ·cases h
 ·cases h
theorem uW{t:tI}{n e size:Nat}(h:MH P t=some (n,e,size)):P.underlying t=some (.array n e)∧(P.info? e).map (·.size)=some size:=by
 unfold MH at h;split at h
 · rename_i n' e' ht
   cases hi:P.info? e' with
   |none=>rw[hi]at h;cases h
   |some i=>rw[hi]at h;cases h;exact⟨ht,by rw[hi];rfl⟩
 ·cases h
end
inductive AC where
 |kn (c:Nat)
 |un (c d:Nat)
def cp(σ:Nat→Nat):AC→Nat
 | .kn c=>c
 | .un c d=>d+σ c
inductive MK where
 |box (t:Nat)
 |row (e size n:Nat) (c:AC)
 |ro
 |maps (m:List (List Nat×AV))
structure MC where
 i:Nat
 kd:MK
 cs:List AV
def prs(σ:Nat→Nat)(m:List (List Nat×AV)):List (yB×vU):=m.map fun p=>(fT p.1,val σ p.2)
def ck(σ:Nat→Nat)(c:MC):Ad:=
 match c.kd with
 | .box t=>Sep.box (bl σ c.i) (Dp σ c.cs) t
 | .row e size n cap=>Sep.row e size (some ⟨bl σ c.i,0,none⟩) n (cp σ cap) (Dp σ c.cs)
 | .ro=>Sep.ro (some ⟨bl σ c.i,0,none⟩) (Dp σ c.cs)
 | .maps m=>Zw (fun b:yB=> .string b) (fun v:vU=>v) (bl σ c.i) (prs σ m)
def mem(σ:Nat→Nat)(M:List MC):List Ad:=M.map (ck σ)
def find:List MC→Nat→oP (Nat×MC)
 |[],_=>none
 | c::r,i=>bif Nat.beq c.i i then some (0,c)else match find r i with
   |some p=>some (p.1+1,p.2)
   |none=>none
theorem Kq{i:Nat}:∀{M:List MC} {j:Nat} {c:MC},find M i=some (j,c)→M[j]?=some c∧c.i=i
 |[],_,_,h=>by cases h
 | c ::r,j,d,h=>by
   unfold find at h;cases hb:Nat.beq c.i i with
   | true=>
     rw[hb]at h;simp only[aQw,aPt,Prod.mk.injEq]at h;obtain⟨rfl,rfl⟩:=h;exact⟨rfl,aPp hb⟩
   | false=>
     rw[hb]at h;simp only[cond_false]at h;split at h
     · rename_i p hf
       simp only[aPt,Prod.mk.injEq]at h;obtain⟨rfl,rfl⟩:=h;exact Kq (M:=r) hf
     ·cases h
theorem Qp{M:List MC}{i j:Nat}{c:MC}(h:find M i=some (j,c)):c∈M:=av (Kq h).1
theorem Qz{σ:Nat→Nat}{M:List MC}{i j:Nat}{c:MC}(h:find M i=some (j,c)):(mem σ M)[j]?=some (ck σ c):=by
 unfold mem;rw[aPs,(Kq h).1];rfl
theorem jK{σ:Nat→Nat}{M:List MC}{j:Nat}{c:MC}:mem σ (M.set j c)=(mem σ M).set j (ck σ c):=by unfold mem;rw[List.map_set]
def EF(k:Nat):AC→Prop
 | .kn _=>True
 | .un c _=>c<k
def aJx(k:Nat):MK→Prop
 | .row _ _ _ c=>EF k c
 | .maps m=>∀p∈m,bel k p.2
 |_=>True
structure aA(k:Nat)(c:MC):Prop where
 pl:c.i<k
 kd:aJx k c.kd
 cs:Es k c.cs
def Lm(k:Nat)(M:List MC):Prop:=∀c∈M,aA k c
theorem aFu{k:Nat}{σ σ':Nat→Nat}(he:∀i,i<k→σ i=σ' i){c:MC}(h:aA k c):ck σ c=ck σ' c:=by
 obtain⟨i,kd,cs⟩:=c;obtain⟨h1,h2,h3⟩:=h;simp only at h1 h2 h3;unfold ck;cases kd with
 |box t=>simp only[Vm he h1,Na he cs h3]
 | row e size n c=>
   have:cp σ c=cp σ' c:=by
    cases c with
    |kn c=>rfl
    |un c d=>simp only[aJx,EF]at h2;simp only[cp,he c h2]
   simp only[Vm he h1,Na he cs h3,this]
 |ro=>simp only[Vm he h1,Na he cs h3]
 | maps m=>
   have:prs σ m=prs σ' m:=by
    unfold prs;exact List.map_congr_left fun p hp=>by rw[Zf he p.2 (h2 p hp)]
   simp only[Vm he h1,this]
theorem Ma{k:Nat}{σ σ':Nat→Nat}(he:∀i,i<k→σ i=σ' i){M:List MC}(h:Lm k M):mem σ M=mem σ' M:=by
 unfold mem;exact List.map_congr_left fun c hc=>aFu he (h c hc)
theorem RY{k k':Nat}(hk:k≤k'){c:MC}(h:aA k c):aA k' c:=by
 obtain⟨i,kd,cs⟩:=c;obtain⟨h1,h2,h3⟩:=h;refine⟨aRz h1 hk,?_,Ph hk _ h3⟩;cases kd with
 |box t=>trivial
 |ro=>trivial
 | row e size n c=>
   cases c with
   |kn c=>trivial
   |un c d=>exact aRz h2 hk
 |maps m=>exact fun p hp=>uT hk _ (h2 p hp)
theorem Pj{k k':Nat}(hk:k≤k'){M:List MC}(h:Lm k M):Lm k' M:=fun c hc=>RY hk (h c hc)
theorem Xy{k:Nat}{M:List MC}{j:Nat}{c:MC}(hM:Lm k M)(hc:aA k c):Lm k (M.set j c):=by
 intro d hd;rcases List.mem_or_eq_of_mem_set hd with h|h
 ·exact hM d h
 ·rw[h];exact hc
theorem Ho{k:Nat}{M N:List MC}(h1:Lm k M)(h2:Lm k N):Lm k (M++N):=fun c hc=>(aQp.1 hc).elim (h1 c) (h2 c)
theorem MJ{k:Nat}{c:MC}{M:List MC}(h1:aA k c)(h2:Lm k M):Lm k (c::M):=fun d hd=>by
 rcases aPi.1 hd with rfl|hd
 ·exact h1
 ·exact h2 d hd
def Qb(c:MC):oP (List AV):=
 match c.kd with
 | .maps _=>none
 |_=>some c.cs
def jB(xs:List AV)(o n:Nat):List AV:=(xs.drop o).take n
theorem xP{σ:Nat→Nat}{xs:List AV}{o n:Nat}:Dp σ (jB xs o n)=sub (Dp σ xs) o n:=by
 unfold jB sub;rw[Eg,Eg,aSa,List.map_drop]
theorem Ip{σ:Nat→Nat}{xs:List AV}:(Dp σ xs).length=xs.length:=by rw[Eg,aPg]
theorem lV{σ:Nat→Nat}{c:MC}{cs:List AV}(h:Qb c=some cs)(o n:Nat):(ck σ c).gives (bl σ c.i) o (Dp σ (jB cs o n)):=by
 obtain⟨i,kd,cs'⟩:=c;rw[xP];unfold Qb at h;unfold ck;cases kd with
 |box t=>cases h;exact Np (n:=n) rfl
 | row e size m c=>
   cases h;have:=qK (e:=e) (size:=size) (A:=some ⟨bl σ i,0,none⟩) (n:=m) (cap:=cp σ c) (o:=o) (k:=n) (xs:=Dp σ cs') rfl;simpa only[blk,ofs,Option.getD_some,aQl]using this
 | ro=>
   cases h;have:=Eb (A:=some ⟨bl σ i,0,none⟩) (o:=o) (k:=n) (xs:=Dp σ cs') rfl;simpa only[blk,ofs,Option.getD_some,aQl]using this
 |maps m=>cases h
theorem RZ{xs:List AV}{o n:Nat}(h:Nat.ble (o+n) xs.length=true):(jB xs o n).length=n:=by
 have:=aPd h;unfold jB;rw[aPo,aRi];omega
theorem lW{k:Nat}{xs:List AV}{o n:Nat}(h:Es k xs):Es k (jB xs o n):=by
 rw[Mj]at h⊢;exact fun z hz=>h z (List.mem_of_mem_drop (aRc hz))
def iG(cs:List AV)(o:Nat)(us:List AV):List AV:=cs.take o++us++cs.drop (o+us.length)
theorem fP{σ:Nat→Nat}{cs us:List AV}{q:Nat}:Dp σ (iG cs q us)=over (Dp σ cs) q (Dp σ us):=by
 unfold iG over;simp only[Eg,aPn,aSa,List.map_drop,aPg]
theorem fQ{k:Nat}{cs us:List AV}{q:Nat}(h:Es k cs)(h':Es k us):Es k (iG cs q us):=by
 rw[Mj]at h h'⊢;intro z hz;unfold iG at hz;rcases aQp.1 hz with hz|hz
 · rcases aQp.1 hz with hz|hz
   ·exact h z (aRc hz)
   ·exact h' z hz
 ·exact h z (List.mem_of_mem_drop hz)
def ML(c:MC)(o:Nat)(us:List AV):oP MC:=
 match c.kd with
 | .box _=>bif Nat.ble (o+us.length) c.cs.length then some ⟨c.i,c.kd,iG c.cs o us⟩else none
 | .row _ size n _=>bif Nat.ble (o+us.length) (n*size)&& !us.isEmpty then some ⟨c.i,c.kd,iG c.cs o us⟩else none
 |_=>none
theorem JA{σ:Nat→Nat}{c c':MC}{o:Nat}{us:List AV}(h:ML c o us=some c'):(ck σ c).takes (bl σ c.i) o (Dp σ us) (ck σ c'):=by
 obtain⟨i,kd,cs⟩:=c;unfold ML at h;cases kd with
 | box t=>
   simp only at h;cases hb:Nat.ble (o+us.length) cs.length with
   |false=>rw[hb]at h;cases h
   | true=>
     rw[hb]at h;cases h;unfold ck;simp only[fP];exact Za (by rw[Ip,Ip];exact hb) rfl
 | row e size n cap=>
   simp only at h;cases hb:(Nat.ble (o+us.length) (n*size)&& !us.isEmpty)with
   |false=>rw[hb]at h;cases h
   | true=>
     rw[hb]at h;cases h;rw[aPk]at hb;unfold ck;simp only[fP];have:=fJ (e:=e) (size:=size) (A:=some ⟨bl σ i,0,none⟩) (n:=n) (cap:=cp σ cap) (off:=o) (xs:=Dp σ cs) (us:=Dp σ us) (by rw[Ip];exact aPd hb.1) (by
      intro h0;have:=aPe List.length h0;rw[Ip]at this;have h1:=hb.2;cases us with
      |nil=>cases h1
      |cons u us=>cases this) rfl
     simpa only[blk,ofs,Option.getD_some,aQl]using this
 |ro=>cases h
 |maps m=>cases h
theorem xQ{k:Nat}{c c':MC}{o:Nat}{us:List AV}(h:ML c o us=some c')(hc:aA k c)(hu:Es k us):aA k c'∧c'.i=c.i:=by
 obtain⟨i,kd,cs⟩:=c;unfold ML at h;cases kd with
 | box t=>
   simp only at h;cases hb:Nat.ble (o+us.length) cs.length with
   |false=>rw[hb]at h;cases h
   |true=>rw[hb]at h;cases h;exact⟨⟨hc.pl,hc.kd,fQ hc.cs hu⟩,rfl⟩
 | row e size n cap=>
   simp only at h;cases hb:(Nat.ble (o+us.length) (n*size)&& !us.isEmpty)with
   |false=>rw[hb]at h;cases h
   |true=>rw[hb]at h;cases h;exact⟨⟨hc.pl,hc.kd,fQ hc.cs hu⟩,rfl⟩
 |ro=>cases h
 |maps m=>cases h
mutual
def gnd:AV→Bool
 | .ptr _ _=>false
 | .sl _ _ _ _=>false
 | .slu _ _ _ _ _=>false
 | .mp _=>false
 | .fn _ a b=>EG a&&EG b
 | .ifc _ v=>gnd v
 | .agg l=>EG l
 | .tup l=>EG l
 |_=>true
def EG:List AV→Bool
 |[]=>true
 |v::l=>gnd v&&EG l
end
mutual
theorem uX:∀(v:AV),gnd v=true→bel 0 v
 | .ptr _ _,h=>by simp[gnd]at h
 | .sl _ _ _ _,h=>by simp[gnd]at h
 | .slu _ _ _ _ _,h=>by simp[gnd]at h
 | .mp _,h=>by simp[gnd]at h
 | .fn _ a b,h=>by simp only[gnd,aPk]at h;simp only[bel];exact⟨Xz a h.1,Xz b h.2⟩
 | .ifc _ v,h=>by simp only[gnd]at h;simp only[bel];exact uX v h
 | .agg l,h=>by simp only[gnd]at h;simp only[bel];exact Xz l h
 | .tup l,h=>by simp only[gnd]at h;simp only[bel];exact Xz l h
 | .bool _,_=>by simp only[bel]
 | .int _ _,_=>by simp only[bel]
 | .str _,_=>by simp only[bel]
 | .nilp,_=>by simp only[bel]
 | .nils,_=>by simp only[bel]
 | .nilm,_=>by simp only[bel]
 | .nilf,_=>by simp only[bel]
 | .nili,_=>by simp only[bel]
 | .und,_=>by simp only[bel]
theorem Xz:∀(l:List AV),EG l=true→Es 0 l
 |[],_=>by simp only[Es]
 |v::l,h=>by simp only[EG,aPk]at h;simp only[Es];exact⟨uX v h.1,Xz l h.2⟩
end
def z0:Nat→Nat:=fun _=>0
theorem JB{v:AV}(h:gnd v=true)(σ:Nat→Nat):val σ v=val z0 v:=Zf (k:=0) (fun _ hi=>aPu hi (Nat.not_lt_zero _)) v (uX v h)
def lX{α:Type}(P:pG):Nat→Sem α→oP α
 |0,_=>none
 |_+1, .pure v=>some v
 |n+1, .program k=>lX P n (k P)
 |n+1, .mark _ k=>lX P n k
 |_+1,_=>none
theorem Sg{α:Type}{P:pG}:∀{n:Nat} {x:Sem α} {v:α},lX P n x=some v→∀w,x.run P w= .ok v w
 |0,_,_,h,_=>by cases h
 |n+1, .pure u,v,h,w=>by simp only[lX,aPt]at h;subst h;rfl
 |n+1, .program k,v,h,w=>by simp only[lX]at h;exact Sg h w
 |n+1, .mark m k,v,h,w=>by simp only[lX]at h;exact Sg h w
 |n+1, .load _ _ _,v,h,w=>by cases h
 |n+1, .store _ _ _ _,v,h,w=>by cases h
 |n+1, .new _ _,v,h,w=>by cases h
 |n+1, .shape _ _,v,h,w=>by cases h
 |n+1, .freeze _ _ _,v,h,w=>by cases h
 |n+1, .frozen _ _,v,h,w=>by cases h
 |n+1, .getObj _ _,v,h,w=>by cases h
 |n+1, .setObj _ _ _,v,h,w=>by cases h
 |n+1, .choose _ _,v,h,w=>by cases h
 |n+1, .sys _ _,v,h,w=>by cases h
 |n+1, .halt _,v,h,w=>by cases h
def qQ:Next→oP AV
 | .value v=>back v
 |_=>none
def gev(ρ:Dq)(x:Operand):oP vU:=
 match aev ρ x with
 |some v=>bif gnd v then some (val z0 v)else none
 |none=>none
def EH(ρ:Dq):List Operand→oP (List vU)
 |[]=>some []
 | x::r=>match gev ρ x,EH ρ r with
   |some v,some l=>some (v::l)
   |_,_=>none
theorem lY{ρ:Dq}{x:Operand}{v:vU}(h:gev ρ x=some v)(σ:Nat→Nat):ev (Jp σ ρ) x=some v:=by
 unfold gev at h;split at h
 · rename_i u hu
   cases hg:gnd u with
   |false=>rw[hg]at h;cases h
   |true=>rw[hg]at h;cases h;rw[Ij (σ:=σ) hu,JB hg]
 ·cases h
theorem xR{ρ:Dq}(σ:Nat→Nat):∀{xs:List Operand} {l:List vU},EH ρ xs=some l→evs (Jp σ ρ) xs=some l
 |[],l,h=>by simp only[EH,aPt]at h;subst h;rfl
 | x ::r,l,h=>by
   unfold EH at h;split at h
   · rename_i v l' h1 h2
     simp only[aPt]at h;subst h;simp only[evs,lY h1 σ,xR σ h2]
   ·cases h
def uY(P:pG)(ρ:Dq)(ty:tI):Op→oP AV
 | .binOp op t x y _=>match gev ρ x,gev ρ y with
   |some u,some v=>(lX P 99 (do eqGuard op t x y u v;binOp op t u v:Sem vU)).bind back
   |_,_=>none
 | .unOp op _ x=>match gev ρ x with
   |some u=>(lX P 99 (Op.unary op u)).bind back
   |none=>none
 | .convert s d x=>match gev ρ x with
   |some u=>(lX P 99 (convert s d u)).bind back
   |none=>none
 | .call c=>match c.callee with
   | .builtin b=>match EH ρ c.args.toList with
     |some us=>(lX P 99 (builtin b c.argTypes ty (c.args.map fun| .const _=>true|_=>false) us.toArray)).bind qQ
     |none=>none
   | .value (.func f)=>match EH ρ c.args.toList with
     |some us=>(lX P 999 (callFunc f us.toArray)).bind qQ
     |none=>none
   |_=>none
 |_=>none
section
variable{P:pG}{o:Oper}{ρ:Dq}{Γ:List Ad}{σ:Nat→Nat}{v:AV}{k:Nat}
theorem JC(h:uY P ρ o.type o.op=some v):Rd P o (Jp σ ρ) Γ (val σ v):=by
 generalize ho:o.op=op at h;unfold uY at h;split at h
 · split at h
   · rename_i u u' hx hy
     obtain⟨r,h1,h2⟩:=aRg.1 h;rw[←Xv h2 σ];exact fw ho (lY hx σ) (lY hy σ) (Sg h1)
   ·cases h
 · split at h
   · rename_i u hx
     obtain⟨r,h1,h2⟩:=aRg.1 h;rw[←Xv h2 σ];exact fun a w ha _=>by unfold execOp;simp[ho,ha.eval (lY hx σ),Sg h1]
   ·cases h
 · split at h
   · rename_i u hx
     obtain⟨r,h1,h2⟩:=aRg.1 h;rw[←Xv h2 σ];exact fun a w ha _=>by unfold execOp;simp[ho,ha.eval (lY hx σ),Sg h1]
   ·cases h
 · rename_i c
   obtain⟨cl,as,ts⟩:=c;have key:∀{us:List vU},EH ρ as.toList=some us→∀a,Wz (Jp σ ρ) a→as.map a.eval=us.toArray:=fun hu a ha=>by
    have:=ha.evals (xR σ hu);rw[←Array.toList_inj];simpa using this
   have key2:∀{n:Next},qQ n=some v→n= .value (val σ v):=fun{n} hn=>by
    unfold qQ at hn;split at hn
    ·rw[Xv hn σ]
    ·cases hn
   split at h
   · rename_i b hc
     simp only at hc;subst hc;split at h
     · rename_i us hu
       obtain⟨r,h1,h2⟩:=aRg.1 h;have:=key2 h2;subst this;exact fun a w ha _=>by unfold execOp;simp only[ho,resolve,invoke,key hu a ha,aQm,aQv,aQf];exact Sg h1 w
     ·cases h
   · rename_i f hc
     simp only at hc;subst hc;split at h
     · rename_i us hu
       obtain⟨r,h1,h2⟩:=aRg.1 h;have:=key2 h2;subst this;exact fun a w ha _=>by
        unfold execOp;have hf:a.eval (.func f)= .func (.func f) #[] #[]:=rfl;simp[ho,resolve,hf,Deferred.ofValue,invoke,key hu a ha,Sg h1]
     ·cases h
   ·cases h
 ·cases h
theorem qR{n:Next}(h:qQ n=some v):bel k v:=by
 unfold qQ at h;split at h
 ·exact Xw h
 ·cases h
theorem xS{ty:tI}{op:Op}(h:uY P ρ ty op=some v):bel k v:=by
 unfold uY at h;split at h
 · split at h
   ·obtain⟨r,_,h2⟩:=aRg.1 h;exact Xw h2
   ·cases h
 · split at h
   ·obtain⟨r,_,h2⟩:=aRg.1 h;exact Xw h2
   ·cases h
 · split at h
   ·obtain⟨r,_,h2⟩:=aRg.1 h;exact Xw h2
   ·cases h
 · split at h
   · split at h
     ·obtain⟨r,_,h2⟩:=aRg.1 h;exact qR h2
     ·cases h
   · split at h
     ·obtain⟨r,_,h2⟩:=aRg.1 h;exact qR h2
     ·cases h
   ·cases h
 ·cases h
end
def xU(a b:IntKind):Bool:=decide (a=b)
def SA(op:BinOp)(k:IntKind)(m n:Int):oP AV:=
 match op with
 | .add=>some (.int k (k.wrap (m+n)))
 | .sub=>some (.int k (k.wrap (m-n)))
 | .mul=>some (.int k (k.wrap (m*n)))
 | .lss=>some (.bool (decide (m<n)))
 | .leq=>some (.bool (decide (m≤n)))
 | .gtr=>some (.bool (decide (m>n)))
 | .geq=>some (.bool (decide (m≥n)))
 | .eql=>some (.bool (decide (m=n)))
 | .neq=>some (.bool (decide (m≠n)))
 |_=>none
def cZ:List Nat→List Nat→Bool
 |[],[]=>true
 |a::x,b::y=>bif Nat.beq (a%256) (b%256)then cZ x y else false
 |_,_=>false
def SB(op:BinOp)(a b:List Nat):oP AV:=
 match op with
 | .eql=>some (.bool (cZ a b))
 | .neq=>some (.bool (!cZ a b))
 | .add=>bif Nat.ble (a.length+b.length) 9223372036854775807 then some (.str (a++b))else none
 |_=>none
def iH(P:pG)(t:tI):Bool:=
 match P.underlying t with
 |some (.pointer e)=>(P.info? e).isSome
 |_=>false
def uZ(P:pG)(t:tI):Bool:=
 match P.underlying t with
 |some (.slice _)=>true
 |_=>false
def Rh(P:pG)(t:tI):Bool:=
 match P.underlying t with
 |some .string=>true
 |_=>false
def vB:BinOp→oP Bool
 | .eql=>some true
 | .neq=>some false
 |_=>none
def moveA(P:pG)(ρ:Dq):Op→oP AV
 | .move x=>aev ρ x
 | .assign x=>aev ρ x
 | .pick c a b=>match aev ρ c with
   |some (.bool true)=>aev ρ a
   |some (.bool false)=>aev ρ b
   |_=>none
 | .extract x i=>match aev ρ x with
   |some (.tup l)=>l[i]?
   |_=>none
 | .nilCheck x=>match aev ρ x with
   |some (.ptr i o)=>some (.ptr i o)
   |some (.fn f a b)=>some (.fn f a b)
   |_=>none
 | .unOp .not _ x=>match aev ρ x with
   |some (.bool b)=>some (.bool (!b))
   |_=>none
 | .binOp op t x y _=>match aev ρ x,aev ρ y with
   |some (.int k m),some (.int k' n)=>bif xU k k' then SA op k m n else none
   |some (.str a),some (.str b)=>SB op a b
   | some (.ptr i q),some (.nilp)=>match vB op with
     |some e=>bif iH P t then some (.bool (!e))else none
     |none=>none
   | some (.ptr i q),some (.ptr j r)=>match vB op with
     |some e=>bif iH P t&&Nat.beq i j&&Nat.beq q r then some (.bool e)else none
     |none=>none
   | some (.sl i q l c),some (.nils)=>match vB op with
     |some e=>bif uZ P t then some (.bool (!e))else none
     |none=>none
   | some (.slu i q l c d),some (.nils)=>match vB op with
     |some e=>bif uZ P t then some (.bool (!e))else none
     |none=>none
   |_,_=>none
 |_=>none
section
variable{P:pG}{o:Oper}{ρ:Dq}{Γ:List Ad}{σ:Nat→Nat}{v:AV}{k:Nat}
theorem YK{op:BinOp}{k:IntKind}{m n:Int}{ρ:Bo}{x y:Operand}{t t':tI}(ho:o.op= .binOp op t x y t')(hx:ev ρ x=some (.int k m))(hy:ev ρ y=some (.int k n))(h:SA op k m n=some v):Rd P o ρ Γ (val σ v):=by
 unfold SA at h;split at h<;>first|cases h|(simp only[aPt]at h;subst h)
 ·exact fw ho hx hy fun w=>by simp[eqGuard,binOp,Op.intArith,val]
 ·exact fw ho hx hy fun w=>by simp[eqGuard,binOp,Op.intArith,val]
 ·exact fw ho hx hy fun w=>by simp[eqGuard,binOp,Op.intArith,val]
 ·exact Rd.lss ho hx hy
 ·exact Rd.leq ho hx hy
 ·exact Rd.gtr ho hx hy
 ·exact Rd.geq ho hx hy
 ·exact Rd.eql ho hx hy
 ·exact Rd.neq ho hx hy
theorem MM(a b:Nat):(UInt8.ofNat a==UInt8.ofNat b)=Nat.beq (a%256) (b%256):=by
 rw[Bool.eq_iff_iff,beq_iff_eq,Nat.beq_eq];constructor
 ·intro h;have:=aPe UInt8.toNat h;simpa using this
 ·intro h;apply UInt8.toNat_inj.1;simpa using h
theorem dA:∀a b:List Nat,((a.map UInt8.ofNat)==(b.map UInt8.ofNat))=cZ a b
 |[],[]=>rfl
 |[],_::_=>rfl
 |_::_,[]=>rfl
 | a::x,b::y=>by
   show(UInt8.ofNat a==UInt8.ofNat b&&(x.map UInt8.ofNat)==(y.map UInt8.ofNat))=_;rw[MM,dA x y];show _=(bif Nat.beq (a%256) (b%256)then cZ x y else false);cases Nat.beq (a%256) (b%256)<;>simp
theorem Rl(a:List Nat):(fT a).toList=a.map UInt8.ofNat:=by unfold fT;exact ByteArray.toList_mk _
theorem Bd(a:List Nat):(fT a).size=a.length:=by unfold fT;simp[ByteArray.size]
theorem qU(a b:List Nat):fT a++fT b=fT (a++b):=by unfold fT;rw[ByteArray.mk_append_mk,aPn]
theorem aB(a:List Nat)(l h:Nat):(fT a).extract l h=fT ((a.drop l).take (h-l)):=by unfold fT;rw[ByteArray.extract_mk,aSa,List.map_drop]
theorem YL{op:BinOp}{a b:List Nat}{ρ:Bo}{x y:Operand}{t t':tI}(ho:o.op= .binOp op t x y t')(hx:ev ρ x=some (.string (fT a)))(hy:ev ρ y=some (.string (fT b)))(h:SB op a b=some v):Rd P o ρ Γ (val σ v):=by
 unfold SB at h;split at h
 ·cases h;exact fw ho hx hy fun w=>by simp[eqGuard,binOp,Op.stringOp,val,Rl,dA]
 ·cases h;exact fw ho hx hy fun w=>by simp[eqGuard,binOp,Op.stringOp,val,Rl,dA]
 · cases hb:Nat.ble (a.length+b.length) 9223372036854775807 with
   |false=>rw[hb]at h;cases h
   | true=>
     rw[hb]at h;cases h;have hle:=aPd hb;refine fw ho hx hy fun w=>?_;have e:(fT a).size+(fT b).size=a.length+b.length:=by rw[Bd,Bd]
     simp only[eqGuard,binOp,Op.stringOp,val,e];have:¬((a.length+b.length:Nat):Int)>IntKind.i64.max:=by
      have:IntKind.i64.max=9223372036854775807:=by simp[IntKind.max,IntKind.signed,IntKind.bits]
      rw[this];omega
     simp only[aPf this,qU];simp
 ·cases h
theorem vC{op:BinOp}{e:Bool}(h:vB op=some e):(e=true∧op= .eql)∨(e=false∧op= .neq):=by
 unfold vB at h;split at h
 ·cases h;exact .inl ⟨rfl,rfl⟩
 ·cases h;exact .inr ⟨rfl,rfl⟩
 ·cases h
theorem xV{t:tI}(h:iH P t=true):∃e j,P.underlying t=some (.pointer e)∧P.info? e=some j:=by
 unfold iH at h;split at h
 · rename_i e he
   cases hj:P.info? e with
   |none=>rw[hj]at h;cases h
   |some j=>exact⟨e,j,he,hj⟩
 ·cases h
theorem JD{t:tI}(h:uZ P t=true):∃e,P.underlying t=some (.slice e):=by
 unfold uZ at h;split at h
 ·rename_i e he;exact⟨e,he⟩
 ·cases h
theorem Qq{t:tI}(h:Rh P t=true):P.underlying t=some .string:=by
 unfold Rh at h;split at h
 ·rename_i he;exact he
 ·cases h
theorem SC{op:BinOp}{e:Bool}{ρ:Bo}{x y:Operand}{t t':tI}{a:Addr}(ho:o.op= .binOp op t x y t')(he:vB op=some e)(ht:iH P t=true)(hx:ev ρ x=some (.pointer (some a)))(hy:ev ρ y=some (.pointer none)):Rd P o ρ Γ (.bool (!e)):=by
 obtain⟨te,j,h1,_⟩:=xV ht;rcases vC he with⟨rfl,rfl⟩|⟨rfl,rfl⟩
 ·exact Fh ho h1 hx hy
 ·exact LX ho h1 hx hy
theorem SE{op:BinOp}{e:Bool}{ρ:Bo}{x y:Operand}{t t':tI}{a:Addr}(ho:o.op= .binOp op t x y t')(he:vB op=some e)(ht:iH P t=true)(hx:ev ρ x=some (.pointer (some a)))(hy:ev ρ y=some (.pointer (some a))):Rd P o ρ Γ (.bool e):=by
 obtain⟨te,j,h1,h2⟩:=xV ht;refine fw ho hx hy fun w=>?_;have h:∀d:Nat,(Op.equalIn (d+1) t (.pointer (some a)) (.pointer (some a))).run P w= .ok true w:=fun d=>by
  simp[Op.equalIn,run_underlying h1,sizeOf,typeInfo,h2,run_sameAddr_same]
 rcases vC he with⟨rfl,rfl⟩|⟨rfl,rfl⟩
 ·simp only[eqGuard,binOp];simp[Op.equal,Op.maxDepth,h 9999]
 ·simp only[eqGuard,binOp];simp[Op.equal,Op.maxDepth,h 9999]
theorem JE{op:BinOp}{e:Bool}{ρ:Bo}{x y:Operand}{t t':tI}{a:Addr}{n c:Nat}(ho:o.op= .binOp op t x y t')(he:vB op=some e)(ht:uZ P t=true)(hx:ev ρ x=some (.slice (some a) n c))(hy:ev ρ y=some (.slice none 0 0)):Rd P o ρ Γ (.bool (!e)):=by
 obtain⟨te,h1⟩:=JD ht;refine fw ho hx hy fun w=>?_;have h:(Op.equal t (.slice (some a) n c) (.slice none 0 0)).run P w= .ok false w:=by
  have key:∀d,(Op.equalIn (d+1) t (.slice (some a) n c) (.slice none 0 0)).run P w= .ok false w:=fun d=>by
   simp[Op.equalIn,run_underlying h1]
  exact key 9999
 rcases vC he with⟨rfl,rfl⟩|⟨rfl,rfl⟩
 ·simp[eqGuard,binOp,h]
 ·simp[eqGuard,binOp,h]
theorem evv{x:Operand}(h:aev ρ x=some v){u:vU}(hu:val σ v=u:=by first|(simp only[val];done)|(simp only[val];rfl)):ev (Jp σ ρ) x=some u:=by rw[Ij (σ:=σ) h,hu]
theorem SF(h:moveA P ρ o.op=some v):Rd P o (Jp σ ρ) Γ (val σ v):=by
 generalize ho:o.op=op at h;unfold moveA at h;split at h
 ·exact dz ho (Ij h)
 ·exact Rd.assign ho (Ij h)
 · split at h
   ·rename_i hc;exact kW ho (evv hc) (Ij h)
   ·rename_i hc;exact kX ho (evv hc) (Ij h)
   ·cases h
 · split at h
   · rename_i l hx
     refine Rd.extract (vs:=Dp σ l) ho (evv hx) ?_;rw[Eg,aPs,h];rfl
   ·cases h
 · split at h
   ·rename_i hx;cases h;simp only[val];exact Rd.nilCheck ho (evv hx)
   ·rename_i hx;cases h;simp only[val];exact uO ho (evv hx)
   ·cases h
 · split at h
   ·rename_i hx;cases h;simp only[val];exact Rd.not ho (evv hx)
   ·cases h
 · split at h
   · rename_i hx hy
     cases hk:xU _ _ with
     |false=>rw[hk]at h;cases h
     | true=>
       rw[hk]at h;have e:=aRn hk;subst e;exact YK ho (evv hx) (evv hy) h
   · rename_i hx hy
     exact YL ho (evv hx) (evv hy) h
   · rename_i hx hy
     split at h
     · rename_i e he
       cases hp:iH P _ with
       |false=>rw[hp]at h;cases h
       |true=>rw[hp]at h;cases h;simp only[val];exact SC ho he hp (evv hx) (evv hy)
     ·cases h
   · rename_i i q j r hx hy
     split at h
     · rename_i e he
       cases hp:(iH P _&&Nat.beq i j&&Nat.beq q r)with
       |false=>rw[hp]at h;cases h
       | true=>
         rw[hp]at h;cases h;simp only[aPk]at hp;obtain⟨⟨h1,h2⟩,h3⟩:=hp;have e1:=aPp h2;have e2:=aPp h3;subst e1 e2;simp only[val];exact SE ho he h1 (evv hx) (evv hy)
     ·cases h
   · rename_i hx hy
     split at h
     · rename_i e he
       cases hp:uZ P _ with
       |false=>rw[hp]at h;cases h
       |true=>rw[hp]at h;cases h;simp only[val];exact JE ho he hp (evv hx) (evv hy)
     ·cases h
   · rename_i hx hy
     split at h
     · rename_i e he
       cases hp:uZ P _ with
       |false=>rw[hp]at h;cases h
       |true=>rw[hp]at h;cases h;simp only[val];exact JE ho he hp (evv hx) (evv hy)
     ·cases h
   ·cases h
 ·cases h
theorem vD{l:List AV}{i:Nat}(hb:Es k l)(h:l[i]?=some v):bel k v:=Mj.1 hb v (av h)
theorem SG{op:BinOp}{K:IntKind}{m n:Int}(h:SA op K m n=some v):bel k v:=by
 unfold SA at h;split at h<;>first|(simp only[aPt]at h;subst h;simp[bel])|cases h
theorem SH{op:BinOp}{a b:List Nat}(h:SB op a b=some v):bel k v:=by
 unfold SB at h;split at h
 ·cases h;simp[bel]
 ·cases h;simp[bel]
 · cases hb:Nat.ble (a.length+b.length) 9223372036854775807 with
   |false=>rw[hb]at h;cases h
   |true=>rw[hb]at h;cases h;simp[bel]
 ·cases h
theorem Nt{c:Bool}{u v:AV}(h:(bif c then some u else none)=some v)(hu:bel k u):bel k v:=by
 cases c with
 |false=>cases h
 |true=>cases h;exact hu
theorem MN{op:Op}(hk:4096≤k)(hb:Rk k ρ)(h:moveA P ρ op=some v):bel k v:=by
 unfold moveA at h;split at h
 ·exact Gv hk hb h
 ·exact Gv hk hb h
 · split at h
   ·exact Gv hk hb h
   ·exact Gv hk hb h
   ·cases h
 · split at h
   ·rename_i l hx;have h2:=Gv hk hb hx;simp only[bel]at h2;exact vD h2 h
   ·cases h
 · split at h
   ·rename_i hx;cases h;exact Gv hk hb hx
   ·rename_i hx;cases h;exact Gv hk hb hx
   ·cases h
 · split at h
   ·cases h;simp[bel]
   ·cases h
 · split at h
   · cases hk:xU _ _ with
     |false=>rw[hk]at h;cases h
     |true=>rw[hk]at h;exact SG h
   ·exact SH h
   · split at h
     ·exact Nt h (by simp[bel])
     ·cases h
   · split at h
     ·exact Nt h (by simp[bel])
     ·cases h
   · split at h
     ·exact Nt h (by simp[bel])
     ·cases h
   · split at h
     ·exact Nt h (by simp[bel])
     ·cases h
   ·cases h
 ·cases h
end
def slv:AV→oP (Nat×Nat×Nat×AC)
 | .sl i q l c=>some (i,q,l, .kn c)
 | .slu i q l c d=>some (i,q,l, .un c d)
 |_=>none
def MO(i q l:Nat):AC→AV
 | .kn c=> .sl i q l c
 | .un c d=> .slu i q l c d
def Ow:AC→Nat
 | .kn c=>c
 | .un _ d=>d
def xW(a:AC)(n:Nat):AC:=
 match a with
 | .kn c=> .kn (c-n)
 | .un c d=> .un c (d-n)
def YM(a:AC)(q lo size:Nat):oP Nat:=
 match a with
 | .kn c=>bif Nat.beq c lo then some q else some (q+lo*size)
 | .un _ d=>bif Nat.blt lo d then some (q+lo*size)else bif Nat.beq lo 0 then some q else none
def dB(ρ:Dq)(x:Operand):oP Nat:=
 match aev ρ x with
 |some (.int _ (.ofNat n))=>some n
 |_=>none
def iI(P:pG)(e:tI)(cs:List AV)(off:Nat):oP AV:=
 match RX P e with
 |some n=>bif Nat.ble (off+n) cs.length then some (.agg (jB cs off n))else none
 |none=>bif cO P e then cs[off]? else none
def fieldV(P:pG)(t:tI)(f:Nat):oP (Nat×Nat):=
 match P.underlying t with
 | some (.struct fs)=>match fs[f]? with
   |some fd=>some (fd.offset,fd.type)
   |none=>none
 |_=>none
def Lp:AV→List AV
 | .agg l=>l
 |v=>[v]
def dC(place:Nat→oP (Nat×Nat))(cs:List AV):List (Nat×AV)→oP (List AV)
 |[]=>some cs
 | (i,v)::r=>match place i with
   |some (off,size)=>bif Nat.beq (Lp v).length size&&Nat.ble (off+(Lp v).length) cs.length then dC place (iG cs off (Lp v)) r else none
   |none=>none
def dD(P:pG):List Field→oP (List (Nat×Nat))
 |[]=>some []
 | f::r=>match P.info? f.type,dD P r with
   |some i,some l=>some ((f.offset,i.size)::l)
   |_,_=>none
def lZ(P:pG)(t:tI)(parts:List (Nat×AV)):oP (List AV):=
 match fM P t,P.underlying t with
 | some zs,some (.struct fs)=>match dD P fs.toList with
   |some pl=>dC (fun i=>pl[i]?) zs parts
   |none=>none
 | some zs,some (.array _ e)=>match P.info? e with
   |some ie=>dC (fun i=>some (i*ie.size,ie.size)) zs parts
   |none=>none
 |_,_=>none
def Vn(ρ:Dq):List (Nat×Operand)→oP (List (Nat×AV))
 |[]=>some []
 | (i,x)::r=>match aev ρ x,Vn ρ r with
   |some v,some l=>some ((i,v)::l)
   |_,_=>none
def fU(size:Nat)(i q l:Nat)(a:AC)(lo hi:Nat):oP AV:=
 bif Nat.ble lo hi&&Nat.ble hi (Ow a)then(match YM a q lo size with
  |some q'=>some (MO i q' (hi-lo) (xW a lo))
  |none=>none)else none
def EI (P:pG)(ρ:Dq):Op→oP AV
 | .fieldAddr s x f=>match aev ρ x with
   | some (.ptr i o)=>match EE P s f with
     |some k=>some (.ptr i (o+k))
     |none=>none
   |_=>none
 | .indexAddr t x y=>match aev ρ x,dB ρ y with
   | some (.ptr i q),some j=>match MH P t with
     |some (n,_,size)=>bif Nat.blt j n then some (.ptr i (q+j*size))else none
     |none=>none
   | some v,some j=>match slv v,Pi P t with
     |some (i,q,l,_),some s=>bif Nat.blt j l then some (.ptr i (q+j*s.size))else none
     |_,_=>none
   |_,_=>none
 | .index t x y=>match aev ρ x,dB ρ y with
   | some (.str s),some j=>bif Rh P t then(match s[j]? with
     |some b=>some (.int .u8 (Int.ofNat (b%256)))
     |none=>none)else none
   | some (.agg cs),some j=>match MH P t with
     |some (n,e,size)=>bif Nat.blt j n then iI P e cs (j*size)else none
     |none=>none
   |_,_=>none
 | .field t x f=>match aev ρ x,fieldV P t f with
   |some (.agg cs),some (off,e)=>iI P e cs off
   |_,_=>none
 | .build t parts=>match Vn ρ parts.toList with
   |some l=>(lZ P t l).map .agg
   |none=>none
 | .makeFunc (.func f) xs ys=>match qC ρ xs.toList,qC ρ ys.toList with
   |some us,some vs=>some (.fn f us vs)
   |_,_=>none
 | .slice t x lo hi mx=>match mx with
   | none=>match aev ρ x with
     | some (.str s)=>bif Rh P t then(match(match lo with|none=>some 0|some y=>dB ρ y),(match hi with|none=>some s.length|some y=>dB ρ y)with
       |some a,some b=>bif Nat.ble a b&&Nat.ble b s.length then some (.str ((s.drop a).take (b-a)))else none
       |_,_=>none)else none
     | some v=>match slv v,Pi P t with
       | some (i,q,l,c),some s=>match lo,hi with
         |none,none=>some v
         | none,some y=>match dB ρ y with
           |some b=>bif Nat.ble b (Ow c)then some (MO i q b c)else none
           |none=>none
         | some x,none=>match dB ρ x with
           |some a=>bif Nat.ble l (Ow c)then fU s.size i q l c a l else none
           |none=>none
         | some x,some y=>match dB ρ x,dB ρ y with
           |some a,some b=>fU s.size i q l c a b
           |_,_=>none
       |_,_=>none
     |none=>none
   | some z=>match lo,hi with
     | none,some y=>match aev ρ x,dB ρ y,dB ρ z with
       |some .nils,some 0,some 0=>bif (Pi P t).isSome then some .nils else none
       | some v,some b,some m=>match slv v,Pi P t with
         |some (i,q,_,c),some _=>bif Nat.ble b m&&Nat.ble m (Ow c)then some (.sl i q b m)else none
         |_,_=>none
       |_,_,_=>none
     |_,_=>none
 | .call c=>match c.callee,c.args.toList,c.argTypes.toList with
   | .builtin .len,[x],[t]=>match aev ρ x with
     | some v=>match slv v with
       |some (_,_,l,_)=>bif uZ P t then some (.int .i64 (Int.ofNat l))else none
       | none=>match v with
         | .str s=>bif Rh P t then some (.int .i64 (Int.ofNat s.length))else none
         |_=>none
     |none=>none
   | .builtin .unsafeSliceData,[x],[_]=>match aev ρ x with
     | some v=>match slv v with
       |some (i,q,_,c)=>bif Nat.blt 0 (Ow c)then some (.ptr i q)else none
       |none=>none
     |none=>none
   |_,_,_=>none
 |_=>none
section
variable{P:pG}{o:Oper}{ρ:Dq}{Γ:List Ad}{σ:Nat→Nat}{v:AV}{k:Nat}
theorem Zg{i q l:Nat}{c:AC}(h:slv v=some (i,q,l,c)):val σ v= .slice (some ⟨bl σ i,q,none⟩) l (cp σ c):=by
 cases v<;>first|(cases h;done)|(simp only[slv,aPt,Prod.mk.injEq]at h;obtain⟨rfl,rfl,rfl,rfl⟩:=h;simp only[val,cp])
theorem xX{i q l:Nat}{c:AC}:val σ (MO i q l c)= .slice (some ⟨bl σ i,q,none⟩) l (cp σ c):=by
 cases c<;>simp only[MO,val,cp]
theorem jL{i q l:Nat}{c:AC}(h:slv v=some (i,q,l,c))(hb:bel k v):i<k∧EF k c:=by
 cases v<;>first|(cases h;done)|(simp only[slv,aPt,Prod.mk.injEq]at h;obtain⟨rfl,rfl,rfl,rfl⟩:=h;simp only[bel]at hb;first|exact⟨hb,trivial⟩|exact hb)
theorem xY{i q l:Nat}{c:AC}(h:i<k)(hc:EF k c):bel k (MO i q l c):=by
 cases c<;>simp only[MO,bel]<;>first|exact h|exact⟨h,hc⟩
theorem Uo{c:AC}:Ow c≤cp σ c:=by cases c<;>simp only[Ow,cp]<;>omega
theorem SK{c:AC}{n:Nat}(h:n≤Ow c):cp σ (xW c n)=cp σ c-n:=by
 cases c with
 |kn c=>simp only[xW,cp]
 |un c d=>simp only[Ow]at h;simp only[xW,cp];omega
theorem MP{c:AC}{n:Nat}(h:EF k c):EF k (xW c n):=by cases c<;>exact h
theorem MQ{A:OA}{cap lo size:Nat}(h:cap=lo):slAt A cap lo size=A:=by unfold slAt;rw[aPr h]
theorem xZ{b q cap lo size:Nat}(h:cap≠lo):slAt (some ⟨b,q,none⟩) cap lo size=some ⟨b,q+lo*size,none⟩:=by unfold slAt;rw[aPf h];simp[Addr.add]
theorem MR{b q cap size:Nat}:slAt (some ⟨b,q,none⟩) cap 0 size=some ⟨b,q,none⟩:=by unfold slAt;split<;>simp[Addr.add]
theorem YN{c:AC}{q lo size q' b:Nat}(h:YM c q lo size=some q'):slAt (some ⟨b,q,none⟩) (cp σ c) lo size=some ⟨b,q',none⟩:=by
 cases c with
 | kn c=>
   simp only[YM]at h;cases hb:Nat.beq c lo with
   |true=>rw[hb]at h;cases h;exact MQ (aPp hb)
   | false=>
     rw[hb]at h;cases h;exact xZ (fun e=>by rw[show c=lo from e,Nat.beq_refl]at hb;cases hb)
 | un c d=>
   simp only[YM]at h;cases hb:Nat.blt lo d with
   | true=>
     rw[hb]at h;cases h;have:=aPd hb;exact xZ (by show d+σ c≠lo;omega)
   | false=>
     rw[hb]at h;simp only[cond_false]at h;cases hz:Nat.beq lo 0 with
     |false=>rw[hz]at h;cases h
     | true=>
       rw[hz]at h;cases h;have:=aPp hz;subst this;exact MR
theorem Jl{x:Operand}{n:Nat}(h:dB ρ x=some n):∃k,ev (Jp σ ρ) x=some (.int k (n:Int)):=by
 unfold dB at h;split at h
 ·rename_i k m hx;cases h;exact⟨k,evv hx⟩
 ·cases h
theorem qV{e:tI}{cs:List AV}{off:Nat}(h:iI P e cs off=some v)(w:wD):(part e (Dp σ cs).toArray off).run P w= .ok (val σ v) w:=by
 unfold iI at h;split at h
 · rename_i n hn
   cases hb:Nat.ble (off+n) cs.length with
   |false=>rw[hb]at h;cases h
   | true=>
     rw[hb]at h;cases h;obtain⟨d,h1,h2,h3⟩:=uV hn;have hagg:(isAgg e).run P w= .ok true w:=by
      unfold isAgg;rw[aQm,run_underlying h1 w];cases d<;>simp_all [TypeDesc.isRow]
     obtain⟨i,hi,hs⟩:=aPy.1 h3;have hz:(sizeOf e).run P w= .ok n w:=by simp[sizeOf,typeInfo,hi,hs]
     unfold part;simp only[aQm,hagg,aQf,if_true,hz,aQv,val,xP,sub];congr 1;simp[List.extract_eq_take_drop]
 · cases hb:cO P e with
   |false=>rw[hb]at h;cases h
   | true=>
     rw[hb]at h;simp only[aQw]at h;obtain⟨d,h1,h2,h3⟩:=lU hb;have hagg:(isAgg e).run P w= .ok false w:=by
      unfold isAgg;rw[aQm,run_underlying h1 w];cases d<;>simp_all [TypeDesc.isRow]
     have hx:(Dp σ cs)[off]?=some (val σ v):=by rw[Eg,aPs,h];rfl
     unfold part;simp[hagg,hx]
theorem qW{e:tI}{cs:List AV}{off:Nat}(h:iI P e cs off=some v)(hb:Es k cs):bel k v:=by
 unfold iI at h;split at h
 · rename_i n hn
   cases hq:Nat.ble (off+n) cs.length with
   |false=>rw[hq]at h;cases h
   |true=>rw[hq]at h;cases h;simp only[bel];exact lW hb
 · cases hq:cO P e with
   |false=>rw[hq]at h;cases h
   |true=>rw[hq]at h;exact vD hb h
theorem Si{v:AV}:(val σ v).cells=(Dp σ (Lp v)).toArray:=by
 cases v<;>first|(simp only[Lp,val,Dp,Value.cells];done)|rfl|(simp only[Lp,val,Dp];rfl)
theorem aP{v:AV}(h:bel k v):Es k (Lp v):=by
 cases v<;>simp only[Lp,Es,bel,and_true]at h⊢ <;>exact h
theorem qX:∀(us:List vU) (cs:List vU) (off:Nat) (j:Nat),off+j+us.length≤cs.length→
    (us.zipIdx j).foldl (fun(a:Array vU) (p:vU×Nat)=>a.setIfInBounds (off+p.2) p.1) cs.toArray=(over cs (off+j) us).toArray
 |[],cs,off,j,_=>by simp[over]
 | u::us,cs,off,j,h=>by
   simp only[bi]at h;simp only[List.zipIdx_cons,aSe];rw[List.setIfInBounds_toArray,qX us (cs.set (off+j) u) off (j+1) (by rw[aPh];omega)];show(over (cs.set (off+j) u) (off+j+1) us).toArray=_;rw[fG cs (off+j) u us om]
theorem mD{place:Nat→oP (Nat×Nat)}:∀{parts:List (Nat×AV)} {cs ds:List AV},dC place cs parts=some ds→Instr.fill place (Dp σ cs).toArray (parts.map fun p=>(p.1,val σ p.2))=some (Dp σ ds).toArray
 |[],cs,ds,h=>by simp only[dC,aPt]at h;subst h;rfl
 | (i, v)::r,cs,ds,h=>by
   unfold dC at h;split at h
   · rename_i off size hp
     cases hb:(Nat.beq (Lp v).length size&&Nat.ble (off+(Lp v).length) cs.length)with
     |false=>rw[hb]at h;cases h
     | true=>
       rw[hb]at h;simp only[aQw]at h;rw[aPk]at hb;have h1:=aPp hb.1;have h2:=aPd hb.2;have ih:=mD (place:=place) h;simp only[aQd];unfold Instr.fill;simp only[hp];have e1:(val σ v).cells.size=size:=by rw[Si];simp[Ip,h1]
       have e2:¬(off+(val σ v).cells.size>(Dp σ cs).toArray.size):=by rw[e1];simp[Ip];omega
       rw[aPf (by rw[e1];simp[Ip];omega)];have e3:((val σ v).cells.zipIdx.foldl (fun cs (x:vU×Nat)=>cs.setIfInBounds (off+x.2) x.1) (Dp σ cs).toArray)=(Dp σ (iG cs off (Lp v))).toArray:=by
        rw[fP,Si];have:=qX (Dp σ (Lp v)) (Dp σ cs) off 0 (by rw[Ip,Ip];omega);rw[aSf]at this;rw[←this];simp[←Array.foldl_toList]
       rw[←ih,←e3]
   ·cases h
theorem fV{place:Nat→oP (Nat×Nat)}:∀{parts:List (Nat×AV)} {cs ds:List AV},dC place cs parts=some ds→Es k cs→(∀p∈parts,bel k p.2)→Es k ds
 |[],cs,ds,h,hc,_=>by simp only[dC,aPt]at h;subst h;exact hc
 | (i, v)::r,cs,ds,h,hc,hp=>by
   unfold dC at h;split at h
   · rename_i off size _
     cases hb:(Nat.beq (Lp v).length size&&Nat.ble (off+(Lp v).length) cs.length)with
     |false=>rw[hb]at h;cases h
     | true=>
       rw[hb]at h;simp only[aQw]at h;exact fV h (fQ hc (aP (hp _ (aPc ..)))) fun p hq=>hp p (aPb _ hq)
   ·cases h
theorem mE:∀{fs:List Field} {l:List (Nat×Nat)},dD P fs=some l→fs.mapM (fun f=>(P.info? f.type).map fun i=>(f.offset,i.size))=some l
 |[],l,h=>by simp only[dD,aPt]at h;subst h;rfl
 | f ::r,l,h=>by
   unfold dD at h;split at h
   · rename_i i l' h1 h2
     simp only[aPt]at h;subst h;simp[List.mapM_cons,h1,mE h2]
   ·cases h
theorem MS{t:tI}{parts:List (Nat×AV)}{cs:List AV}(h:lZ P t parts=some cs):P.built t (parts.map fun p=>(p.1,val σ p.2))=some (Dp σ cs).toArray:=by
 unfold lZ at h;unfold Program.built;split at h
 · rename_i zs fs hz hu
   have hz':=fO hz σ;replace hz':=hz'.h;obtain⟨it,h1,h2⟩:=aRg.1 hz';obtain⟨z,h3,h4⟩:=aPy.1 h2;split at h
   · rename_i pl hp
     simp only[h1,hu,h3,mE hp];have:=mD (σ:=σ) h;rw[←h4]at this;simpa using this
   ·cases h
 · rename_i zs n e hz hu
   have hz':=fO hz σ;replace hz':=hz'.h;obtain⟨it,h1,h2⟩:=aRg.1 hz';obtain⟨z,h3,h4⟩:=aPy.1 h2;split at h
   · rename_i ie hi
     simp only[h1,hu,h3,hi];have:=mD (σ:=σ) h;rw[←h4]at this;simpa using this
   ·cases h
 ·cases h
theorem EJ{t:tI}{parts:List (Nat×AV)}{cs:List AV}(h:lZ P t parts=some cs)(hp:∀p∈parts,bel k p.2):Es k cs:=by
 unfold lZ at h;split at h
 · rename_i hz _
   split at h
   ·exact fV h (Xx hz) hp
   ·cases h
 · rename_i hz _
   split at h
   ·exact fV h (Xx hz) hp
   ·cases h
 ·cases h
theorem fZ:∀{ps:List (Nat×Operand)} {l:List (Nat×AV)},Vn ρ ps=some l→evs (Jp σ ρ) (ps.map (·.2))=some ((l.map fun p=>(p.1,val σ p.2)).map (·.2))∧ps.map (·.1)=(l.map fun p=>(p.1,val σ p.2)).map (·.1)
 |[],l,h=>by simp only[Vn,aPt]at h;subst h;exact⟨rfl,rfl⟩
 | (i,x)::r,l,h=>by
   unfold Vn at h;split at h
   · rename_i v l' h1 h2
     simp only[aPt]at h;subst h;obtain⟨a,b⟩:=fZ h2;simp only[aQd,evs,Ij (σ:=σ) h1,a,b,and_self]
   ·cases h
theorem aQ(hk:4096≤k)(hb:Rk k ρ):∀{ps:List (Nat×Operand)} {l:List (Nat×AV)},Vn ρ ps=some l→∀p∈l,bel k p.2
 |[],l,h=>by simp only[Vn,aPt]at h;subst h;simp
 | (i,x)::r,l,h=>by
   unfold Vn at h;split at h
   · rename_i v l' h1 h2
     simp only[aPt]at h;subst h;intro p hp;rcases aPi.1 hp with rfl|hp
     ·exact Gv hk hb h1
     ·exact aQ hk hb h2 p hp
   ·cases h
end
section
variable{P:pG}{o:Oper}{ρ:Dq}{Γ:List Ad}{σ:Nat→Nat}{v:AV}{k:Nat}{x y z:Operand}{ρs:Bo}{t:tI}
theorem SL{n e size b off j:Nat}{k:IntKind}(ho:o.op= .indexAddr t x y)(ht:MH P t=some (n,e,size))(hx:ev ρs x=some (.pointer (some ⟨b,off,none⟩)))(hy:ev ρs y=some (.int k (j:Int)))(hj:j<n):Rd P o ρs Γ (.pointer (some ⟨b,off+j*size,none⟩)):=
 Df ho (Io.of (uW ht).1 (uW ht).2) hx hy hj
theorem Rd.slAt{i q l j:Nat}{c:AC}{s:SI}{k:IntKind}(ho:o.op= .indexAddr t x y)(ht:Pi P t=some s)(hx:ev ρs x=some (.slice (some ⟨bl σ i,q,none⟩) l (cp σ c)))(hy:ev ρs y=some (.int k (j:Int)))(hj:j<l):Rd P o ρs Γ (.pointer (some ⟨bl σ i,q+j*s.size,none⟩)):=by
 have:=Ff (P:=P) (Γ:=Γ) (A:=some ⟨bl σ i,q,none⟩) rfl ho hx hy (Kb ht σ) hj;simpa only[blk,ofs,Option.getD_some]using this
theorem MU{s:List Nat}{j b:Nat}{k:IntKind}(ho:o.op= .index t x y)(ht:P.underlying t=some .string)(hx:ev ρs x=some (.string (fT s)))(hy:ev ρs y=some (.int k (j:Int)))(hj:s[j]?=some b):Rd P o ρs Γ (.int .u8 (Int.ofNat (b%256))):=by
 have hlt:j<s.length:=(aOz.1 hj).1;have h:=iD (P:=P) (Γ:=Γ) ho ht hx hy (by rw[Bd];exact hlt);have e:((fT s).data[j]'(by show j<(fT s).size;rw[Bd];exact hlt)).toNat=b%256:=by
  unfold fT;have:=(aOz.1 hj).2;simp[this]
 rw[e]at h;exact h
theorem YO{n e size j:Nat}{k:IntKind}{cs:List AV}(ho:o.op= .index t x y)(ht:MH P t=some (n,e,size))(hx:ev ρs x=some (.agg (Dp σ cs).toArray))(hy:ev ρs y=some (.int k (j:Int)))(hj:j<n)(h:iI P e cs (j*size)=some v):Rd P o ρs Γ (val σ v):=fun a w ha _=>by
 obtain⟨h1,h2⟩:=uW ht;obtain⟨i,hi,hs⟩:=aPy.1 h2;have hz:(sizeOf e).run P w= .ok size w:=by simp[sizeOf,typeInfo,hi,hs]
 unfold execOp;have:((j:Int)<(n:Int)):=om;simp[ho,ha.eval hx,ha.eval hy,Instr.index,asIntOf,run_underlying h1,this,hz,qV h w];intro h9;omega
theorem EK{off e f:Nat}{cs:List AV}(ho:o.op= .field t x f)(ht:fieldV P t f=some (off,e))(hx:ev ρs x=some (.agg (Dp σ cs).toArray))(h:iI P e cs off=some v):Rd P o ρs Γ (val σ v):=fun a w ha _=>by
 unfold fieldV at ht;split at ht
 · rename_i fs hs
   split at ht
   · rename_i fd hf
     cases ht;unfold execOp;simp[ho,ha.eval hx,Instr.field,run_underlying hs,hf,asAgg,qV h w]
   ·cases ht
 ·cases ht
theorem Rd.strSl{s:List Nat}{lo hi:oP Operand}{a b:Nat}(ho:o.op= .slice t x lo hi none)(ht:P.underlying t=some .string)(hx:ev ρs x=some (.string (fT s)))
    (h1:match lo with|none=>a=0|some y=>∃k,ev ρs y=some (.int k (a:Int))) (h2:match hi with|none=>b=s.length|some y=>∃k,ev ρs y=some (.int k (b:Int))) (h3:a≤b) (h4:b≤s.length):Rd P o ρs Γ (.string (fT ((s.drop a).take (b-a)))):=fun ac w ha _=>by
 unfold execOp;rw[←aB];cases lo with
 | none=>
   simp only at h1;subst h1;cases hi with
   |none=>simp only at h2;subst h2;simp[ho,ha.eval hx,Instr.sliceAt,run_underlying ht,Instr.slice,Instr.sliceBounds,Bd];rw[aB];simp
   | some y=>
     obtain⟨k,hy⟩:=h2;simp[ho,ha.eval hx,ha.eval hy,Instr.sliceAt,run_underlying ht,Instr.slice,Instr.sliceBounds,Instr.sliceBound,asIntOf,Bd,h4]
 | some z=>
   obtain⟨k',hz⟩:=h1;cases hi with
   |none=>simp only at h2;subst h2;simp[ho,ha.eval hx,ha.eval hz,Instr.sliceAt,run_underlying ht,Instr.slice,Instr.sliceBounds,Instr.sliceBound,asIntOf,Bd,h3]
   | some y=>
     obtain⟨k,hy⟩:=h2;simp[ho,ha.eval hx,ha.eval hy,ha.eval hz,Instr.sliceAt,run_underlying ht,Instr.slice,Instr.sliceBounds,Instr.sliceBound,asIntOf,Bd,h4,h3]
theorem qY{e bytes size n cap b m:Nat}{zs:List vU}{A:OA}{k k':IntKind}(ho:o.op= .slice t x none (some y) (some z))(ht:Cj P t e size bytes zs)(hx:ev ρs x=some (.slice A n cap))(hy:ev ρs y=some (.int k (b:Int)))(hz:ev ρs z=some (.int k' (m:Int)))(h1:b≤m)(h2:m≤cap):Rd P o ρs Γ (.slice A b m):=fun a w ha _=>by
 obtain⟨i,zz,g1,g2,g3,_⟩:=ht.inf;unfold execOp;simp[ho,ha.eval hx,ha.eval hy,ha.eval hz,Instr.sliceAt,run_underlying ht.und,Instr.slice,Instr.sliceBounds,Instr.sliceBound,asIntOf,h1,h2,sizeOf,typeInfo,g1];intro _;cases A<;>simp[Addr.add]
theorem qZ{s:SI}{i q l lo hi:Nat}{c:AC}(ht:Pi P t=some s)(h:fU s.size i q l c lo hi=some v)(R:vU→Prop)(hr:lo≤hi→hi≤cp σ c→R (.slice (Sep.slAt (some ⟨bl σ i,q,none⟩) (cp σ c) lo s.size) (hi-lo) (cp σ c-lo))):R (val σ v):=by
 unfold fU at h;cases hb:(Nat.ble lo hi&&Nat.ble hi (Ow c))with
 |false=>rw[hb]at h;cases h
 | true=>
   rw[hb]at h;simp only[aQw]at h;rw[aPk]at hb;have h1:=aPd hb.1;have h2:=aPd hb.2;have h3:=Uo (σ:=σ) (c:=c);split at h
   · rename_i q' hq
     cases h;have:=hr h1 om;rw[YN hq]at this;rw[xX,SK om];exact this
   ·cases h
theorem mF{s i q l lo hi:Nat}{c:AC}(h:fU s i q l c lo hi=some v)(h1:i<k)(h2:EF k c):bel k v:=by
 unfold fU at h;cases hb:(Nat.ble lo hi&&Nat.ble hi (Ow c))with
 |false=>rw[hb]at h;cases h
 | true=>
   rw[hb]at h;simp only[aQw]at h;split at h
   ·cases h;exact xY h1 (MP h2)
   ·cases h
theorem run_sliceData{ts:Array tI}{ty:tI}{a:Addr}{l c:Nat}(h:c≠0){w:wD}:(Builtin.unsafeSliceData_ ts ty #[.slice (some a) l c]).run P w= .ok (.pointer (some a)) w:=by
 have e:Builtin.unsafeSliceData_ ts ty #[.slice (some a) l c]=(if c≠0 then pure (.pointer (some a))else(do if(←viewAt a.block).isSome then pure (.pointer (some a))else pure (.pointer (some ⟨←newObj (.view a (←elemOf ty)),0,none⟩)))):=rfl;rw[e,aPr h];rfl
theorem EL{i q l:Nat}{c:AC}{u:AV}(hx:aev ρ x=some u)(h:slv u=some (i,q,l,c)):ev (Jp σ ρ) x=some (.slice (some ⟨bl σ i,q,none⟩) l (cp σ c)):=by rw[Ij (σ:=σ) hx,Zg h]
theorem YP(h:EI P ρ o.op=some v):Rd P o (Jp σ ρ) Γ (val σ v):=by
 generalize ho:o.op=op at h;unfold EI at h;split at h
 -- fieldAddr
 · split at h
   · rename_i i q hx
     split at h
     ·rename_i k hf;cases h;simp only[val];exact Rd.field ho (evv hx) (MI hf)
     ·cases h
   ·cases h
 -- indexAddr
 · split at h
   · rename_i i q j hx hy
     obtain⟨k,hy⟩:=Jl (σ:=σ) hy;split at h
     · rename_i n e size ha
       cases hb:Nat.blt j n with
       |false=>rw[hb]at h;cases h
       |true=>rw[hb]at h;cases h;simp only[val];exact SL ho ha (evv hx) hy (aPd hb)
     ·cases h
   · rename_i u j _ hx hy
     obtain⟨k,hy⟩:=Jl (σ:=σ) hy;split at h
     · rename_i i q l c s hs ht
       cases hb:Nat.blt j l with
       |false=>rw[hb]at h;cases h
       |true=>rw[hb]at h;cases h;simp only[val];exact Rd.slAt ho ht (EL hx hs) hy (aPd hb)
     ·cases h
   ·cases h
 -- index
 · split at h
   · rename_i s j hx hy
     obtain⟨k,hy⟩:=Jl (σ:=σ) hy;cases hb:Rh P _ with
     |false=>rw[hb]at h;cases h
     | true=>
       rw[hb]at h;simp only[aQw]at h;split at h
       ·rename_i b hj;cases h;simp only[val];exact MU ho (Qq hb) (evv hx) hy hj
       ·cases h
   · rename_i cs j hx hy
     obtain⟨k,hy⟩:=Jl (σ:=σ) hy;split at h
     · rename_i n e size ha
       cases hb:Nat.blt j n with
       |false=>rw[hb]at h;cases h
       |true=>rw[hb]at h;exact YO ho ha (evv hx) hy (aPd hb) h
     ·cases h
   ·cases h
 -- field
 · split at h
   ·rename_i cs off e hx hf;exact EK ho hf (evv hx) h
   ·cases h
 -- build
 · split at h
   · rename_i l hl
     obtain⟨cs,hb,rfl⟩:=aPy.1 h;obtain⟨h1,h2⟩:=fZ (σ:=σ) hl;simp only[val];exact Rd.build (by rw[ho]) h1 h2 (MS hb)
   ·cases h
 -- makeFunc
 · split at h
   · rename_i us vs hx hy
     cases h;simp only[val];exact Rd.makeFunc (by rw[ho]) (bY hx) (bY hy)
   ·cases h
 -- slice
 · split at h
   · split at h
     · rename_i s hx
       cases hb:Rh P _ with
       |false=>rw[hb]at h;cases h
       | true=>
         rw[hb]at h;simp only[aQw]at h;split at h
         · rename_i a b ha hbb
           cases hq:(Nat.ble a b&&Nat.ble b s.length)with
           |false=>rw[hq]at h;cases h
           | true=>
             rw[hq]at h;cases h;rw[aPk]at hq;simp only[val];refine Rd.strSl ho (Qq hb) (evv hx) ?_ ?_ (aPd hq.1) (aPd hq.2)
             · split at ha
               ·cases ha;rfl
               ·exact Jl ha
             · split at hbb
               ·cases hbb;rfl
               ·exact Jl hbb
         ·cases h
     · rename_i u _ hx
       split at h
       · rename_i i q l c s hs ht
         have hxv:=EL (σ:=σ) hx hs;have hti:=Kb ht σ;split at h
         · cases h
           rw[Zg hs];exact xH ho hti hxv
         · split at h
           · rename_i b hn
             obtain⟨k,hy⟩:=Jl (σ:=σ) hn;cases hb:Nat.ble b (Ow c)with
             |false=>rw[hb]at h;cases h
             | true=>
               rw[hb]at h;cases h;have:=aPd hb;have h3:=Uo (σ:=σ) (c:=c);rw[xX];exact Gq ho hti hxv hy om
           ·cases h
         · split at h
           · rename_i a hn
             obtain⟨k,hy⟩:=Jl (σ:=σ) hn;cases hb:Nat.ble l (Ow c)with
             |false=>rw[hb]at h;cases h
             | true=>
               rw[hb]at h;simp only[aQw]at h;exact qZ ht h (fun r=>Rd P o (Jp σ ρ) Γ r) fun h1 _=>Sb ho hti hxv hy h1
           ·cases h
         · split at h
           · rename_i a b hn hm
             obtain⟨k,hy⟩:=Jl (σ:=σ) hn;obtain⟨k',hz⟩:=Jl (σ:=σ) hm;exact qZ ht h (fun r=>Rd P o (Jp σ ρ) Γ r) fun h1 h2=>DL ho hti hxv hy hz h1 h2
           ·cases h
       ·cases h
     ·cases h
   · split at h
     · split at h
       · rename_i hx hy hz
         obtain⟨k,hy⟩:=Jl (σ:=σ) hy;obtain⟨k',hz⟩:=Jl (σ:=σ) hz;cases hb:(Pi P _).isSome with
         |false=>rw[hb]at h;cases h
         | true=>
           rw[hb]at h;cases h;obtain⟨s,hs⟩:=aRq.1 hb;simp only[val];exact qY ho (Kb hs σ) (evv hx) hy hz (aPl _) (aPl _)
       · rename_i u b m _ hx hy hz
         obtain⟨k,hy⟩:=Jl (σ:=σ) hy;obtain⟨k',hz⟩:=Jl (σ:=σ) hz;split at h
         · rename_i i q l c s hs ht
           cases hb:(Nat.ble b m&&Nat.ble m (Ow c))with
           |false=>rw[hb]at h;cases h
           | true=>
             rw[hb]at h;cases h;rw[aPk]at hb;have h3:=Uo (σ:=σ) (c:=c);have h4:=aPd hb.2;simp only[val];exact qY ho (Kb ht σ) (EL hx hs) hy hz (aPd hb.1) om
         ·cases h
       ·cases h
     ·cases h
 -- call
 · rename_i c
   obtain⟨cl,as,ts⟩:=c;simp only at h;split at h
   · rename_i x t h1 h2
     have e1:as=#[x]:=by rw[←Array.toList_inj];exact h1
     have e2:ts=#[t]:=by rw[←Array.toList_inj];exact h2
     subst e1 e2;split at h
     · rename_i u hx
       split at h
       · rename_i i q l c hs
         cases hb:uZ P _ with
         |false=>rw[hb]at h;cases h
         | true=>
           rw[hb]at h;cases h;obtain⟨e,he⟩:=JD hb;simp only[val];exact Rd.len ho (EL hx hs) he
       · split at h
         · rename_i s _
           cases hb:Rh P _ with
           |false=>rw[hb]at h;cases h
           | true=>
             rw[hb]at h;cases h;simp only[val];have hx':=evv (σ:=σ) (u:= .string (fT s)) hx;exact fun a w ha _=>by unfold execOp;simp[ho,resolve,invoke,builtin,ha.eval hx',Builtin.len_,run_underlying (Qq hb),goInt,Bd]
         ·cases h
     ·cases h
   · rename_i x t h1 h2
     have e1:as=#[x]:=by rw[←Array.toList_inj];exact h1
     subst e1;split at h
     · rename_i u hx
       split at h
       · rename_i i q l c hs
         cases hb:Nat.blt 0 (Ow c)with
         |false=>rw[hb]at h;cases h
         | true=>
           rw[hb]at h;cases h;have h3:=Uo (σ:=σ) (c:=c);have h4:cp σ c≠0:=by have:=aPd hb;omega
           have hx':=EL (σ:=σ) hx hs;simp only[val];exact fun a w ha _=>by unfold execOp;simp[ho,resolve,invoke,builtin,ha.eval hx',run_sliceData h4]
       ·cases h
     ·cases h
   ·cases h
 ·cases h
theorem SN{op:Op}(hk:4096≤k)(hb:Rk k ρ)(h:EI P ρ op=some v):bel k v:=by
 unfold EI at h;split at h
 · split at h
   · rename_i i q hx
     have h2:=Gv hk hb hx;split at h
     ·cases h;simp only[bel]at h2⊢;exact h2
     ·cases h
   ·cases h
 · split at h
   · rename_i i q j hx hy
     have h2:=Gv hk hb hx;split at h
     ·exact Nt h (by simp only[bel]at h2⊢;exact h2)
     ·cases h
   · rename_i u j _ hx hy
     have h2:=Gv hk hb hx;split at h
     · rename_i hs _
       exact Nt h (by simp only[bel];exact(jL hs h2).1)
     ·cases h
   ·cases h
 · split at h
   · cases hb:Rh P _ with
     |false=>rw[hb]at h;cases h
     | true=>
       rw[hb]at h;simp only[aQw]at h;split at h
       ·cases h;simp[bel]
       ·cases h
   · rename_i cs j hx hy
     have h2:=Gv hk hb hx;simp only[bel]at h2;split at h
     · rename_i n e size ha
       cases hb:Nat.blt j n with
       |false=>rw[hb]at h;cases h
       |true=>rw[hb]at h;exact qW h h2
     ·cases h
   ·cases h
 · split at h
   · rename_i cs off e hx hf
     have h2:=Gv hk hb hx;simp only[bel]at h2;exact qW h h2
   ·cases h
 · split at h
   · rename_i l hl
     obtain⟨cs,hc,rfl⟩:=aPy.1 h;simp only[bel];exact EJ hc (aQ hk hb hl)
   ·cases h
 · split at h
   · rename_i us vs hx hy
     cases h;simp only[bel];exact⟨cK hk hb hx,cK hk hb hy⟩
   ·cases h
 · split at h
   · split at h
     · cases hb:Rh P _ with
       |false=>rw[hb]at h;cases h
       | true=>
         rw[hb]at h;simp only[aQw]at h;split at h
         ·exact Nt h (by simp only[bel])
         ·cases h
     · rename_i u _ hx
       have h2:=Gv hk hb hx;split at h
       · rename_i i q l c s hs ht
         have h3:=jL hs h2;split at h
         ·cases h;exact h2
         · split at h
           ·exact Nt h (xY h3.1 h3.2)
           ·cases h
         · split at h
           · rename_i a hn
             cases hb:Nat.ble l (Ow c)with
             |false=>rw[hb]at h;cases h
             |true=>rw[hb]at h;exact mF (l:=l) h h3.1 h3.2
           ·cases h
         · split at h
           ·exact mF (l:=l) h h3.1 h3.2
           ·cases h
       ·cases h
     ·cases h
   · split at h
     · split at h
       ·exact Nt h (by simp only[bel])
       · rename_i u b m _ hx hy hz
         have h2:=Gv hk hb hx;split at h
         · rename_i i q l c s hs ht
           exact Nt h (by simp only[bel];exact(jL hs h2).1)
         ·cases h
       ·cases h
     ·cases h
 · split at h
   · split at h
     · split at h
       ·exact Nt h (by simp only[bel])
       · split at h
         ·exact Nt h (by simp only[bel])
         ·cases h
     ·cases h
   · split at h
     · rename_i u hx
       have h2:=Gv hk hb hx;split at h
       · rename_i i q l c hs
         exact Nt h (by simp only[bel];exact(jL hs h2).1)
       ·cases h
     ·cases h
   ·cases h
 ·cases h
end
inductive Res where
 |val (v:AV)
 |up (M:List MC)
 |mk (v:AV) (N:List MC) (k:Nat)
 |ge (v:AV) (M:List MC) (k:Nat)
def Sup(k:Nat)(σ σ':Nat→Nat):Prop:=∀i,i<k→σ i=σ' i
def jC(k:Nat)(σ:Nat→Nat)(v:AV)(M:List MC)(u:vU)(Γ:List Ad):Prop:=∃σ',Sup k σ σ'∧u=val σ' v∧Γ=mem σ' M
def aC(P:pG)(o:Oper)(ρ:Dq)(M:List MC)(k:Nat):Res→Prop
 | .val v=>bel k v∧∀σ,Rd P o (Jp σ ρ) (mem σ M) (val σ v)
 | .up M'=>Lm k M'∧∀σ,Up P o (Jp σ ρ) (mem σ M) (mem σ M')
 | .mk v N k'=>k≤k'∧bel k' v∧Lm k' N∧∀σ,Mk P o (Jp σ ρ) (mem σ M) (jC k σ v N)
 | .ge v M' k'=>k≤k'∧bel k' v∧Lm k' M'∧∀σ,Ge P o (Jp σ ρ) (mem σ M) (jC k σ v M')
def mG (P:pG)(ρ:Dq)(M:List MC):Op→oP AV
 | .load ty x=>match aev ρ x with
   | some (.ptr i o)=>match find M i with
     | some (_,c)=>match Qb c with
       | some cs=>match RX P ty with
         |some n=>bif Nat.ble (o+n) cs.length then some (.agg (jB cs o n))else none
         |none=>bif cO P ty then cs[o]? else none
       |none=>none
     |none=>none
   |_=>none
 | .convert s d x=>match aev ρ x with
   | some (.ptr i q)=>match find M i with
     | some (_,c)=>match c.kd with
       | .box e=>match P.underlying s,P.underlying d with
         | some (.pointer t),some .unsafePointer=>match P.info? t with
           |some j=>bif !Nat.beq j.size 0&&Nat.blt q c.cs.length then some (.ptr i q)else none
           |none=>none
         |some .unsafePointer,some (.pointer t)=>bif (P.info? t).isSome&&liesAt P P.depth e (c.cs.length/P.cellsOf e) q t 1 then some (.ptr i q)else none
         |_,_=>none
       |_=>none
     |none=>none
   |_=>none
 | .call c=>match c.callee,c.args.toList,c.argTypes.toList with
   | .builtin .len,[x],[t]=>match aev ρ x with
     | some (.mp i)=>match find M i,P.underlying t with
       | some (_,c),some (.map _ _)=>match c.kd with
         | .maps m=>some (.int .i64 (Int.ofNat m.length))
         |_=>none
       |_,_=>none
     |_=>none
   |_,_,_=>none
 |_=>none
def mH:List (List Nat×AV)→List Nat→AV→List (List Nat×AV)
 |[],x,v=>[(x,v)]
 |(y,u)::r,x,v=>bif cZ x y then(x,v)::r else(y,u)::mH r x v
def upA (P :pG)(ρ:Dq)(M:List MC):Op→oP (List MC)
 | .store ty x y=>match aev ρ x,aev ρ y with
   | some (.ptr i o),some v=>match find M i with
     | some (j,c)=>match RX P ty with
       | some n=>match v with
         | .agg us=>bif Nat.beq us.length n&&us.all one then(match ML c o us with
           |some c'=>some (M.set j c')
           |none=>none)else none
         |_=>none
       |none=>bif cO P ty&&one v then(match ML c o [v]with
           |some c'=>some (M.set j c')
           |none=>none)else none
     |none=>none
   |_,_=>none
 | .mapUpdate t x y z=>match aev ρ x,aev ρ y,aev ρ z with
   | some (.mp i),some (.str s),some v=>match find M i,P.underlying t with
     | some (j,c),some (.map K _)=>match c.kd with
       | .maps m=>bif Rh P K then some (M.set j ⟨c.i, .maps (mH m s v),c.cs⟩)else none
       |_=>none
     |_,_=>none
   |_,_,_=>none
 |_=>none
section
variable{P:pG}{o:Oper}{ρ:Dq}{M M':List MC}{σ:Nat→Nat}{v:AV}{k:Nat}
theorem aR{c:MC}{cs:List AV}(h:Qb c=some cs)(hc:aA k c):Es k cs:=by
 obtain⟨i,kd,cs'⟩:=c;unfold Qb at h;cases kd<;>first|(cases h;done)|(cases h;exact hc.cs)
theorem aJy{cs:List AV}{q:Nat}{u:AV}(h:cs[q]?=some u):jB cs q 1=[u]:=by
 have hlt:q<cs.length:=(aOz.1 h).1;unfold jB;rw[aRm hlt,(aOz.1 h).2];rfl
theorem Ya(hk:4096≤k)(hb:Rk k ρ)(hM:Lm k M)(h:mG P ρ M o.op=some v):aC P o ρ M k (.val v):=by
 generalize ho:o.op=op at h;unfold mG at h;split at h
 · rename_i ty x
   split at h
   · rename_i i q hx
     split at h
     · rename_i j c hf
       split at h
       · rename_i cs hc
         have hbc:=aR hc (hM c (Qp hf));have hi:=(Kq hf).2;split at h
         · rename_i n hr
           cases hq:Nat.ble (q+n) cs.length with
           |false=>rw[hq]at h;cases h
           | true=>
             rw[hq]at h;cases h;refine⟨by simp only[bel];exact lW hbc,fun σ=>?_⟩;have hx':=evv (σ:=σ) hx;rw[←hi]at hx';have:=Pg ho hx' (uV hr) (Qz (σ:=σ) hf) (lV hc q n) (by rw[Ip,RZ hq]);simpa only[val]using this
         · cases hcl:cO P ty with
           |false=>rw[hcl]at h;cases h
           | true=>
             rw[hcl]at h;simp only[aQw]at h;refine⟨vD hbc h,fun σ=>?_⟩;have hx':=evv (σ:=σ) hx;rw[←hi]at hx';have hg:=lV (σ:=σ) hc q 1;rw[aJy h]at hg;exact Cu ho hx' (lU hcl) (Qz (σ:=σ) hf) hg
       ·cases h
     ·cases h
   ·cases h
 · rename_i s d x
   split at h
   · rename_i i q hx
     have hbx:=Gv hk hb hx;split at h
     · rename_i j c hf
       have hi:=(Kq hf).2;split at h
       · rename_i e hc
         have hsh:∀σ w,oks (mem σ M) w→w.shape? (bl σ i)=some (e,c.cs.length):=fun σ w hw=>by
          have h1:=hw _ (av (Qz (σ:=σ) hf));unfold ck at h1;rw[hc]at h1;have h2:w.heap[bl σ c.i]?=some (.cells (Dp σ c.cs).toArray e (0,0)):=h1;rw[hi]at h2;simp[World.shape?,h2,Ip]
         split at h
         · rename_i t hs hd
           split at h
           · rename_i jt hj
             cases hq:(!Nat.beq jt.size 0&&Nat.blt q c.cs.length)with
             |false=>rw[hq]at h;cases h
             | true=>
               rw[hq]at h;cases h;rw[aPk]at hq;refine⟨hbx,fun σ=>fun a w ha hw=>?_⟩;have hx':=evv (σ:=σ) hx;have h0:jt.size≠0:=fun e=>by rw[e]at hq;simp at hq
               unfold execOp;simp only[ho,ha.eval hx',aQm,Lib.run_to_unsafe w ⟨bl σ i,q,none⟩ hs hd hj h0 (hsh σ w hw) (aPd hq.2),aQf,aQv,val]
           ·cases h
         · rename_i t hs hd
           cases hq:((P.info? t).isSome&&liesAt P P.depth e (c.cs.length/P.cellsOf e) q t 1)with
           |false=>rw[hq]at h;cases h
           | true=>
             rw[hq]at h;cases h;rw[aPk]at hq;obtain⟨jt,hj⟩:=aRq.1 hq.1;refine⟨hbx,fun σ=>fun a w ha hw=>?_⟩;have hx':=evv (σ:=σ) hx;unfold execOp;simp only[ho,ha.eval hx',aQm,Lib.run_from_unsafe w ⟨bl σ i,q,none⟩ hs hd hj (hsh σ w hw) hq.2,aQf,aQv,val]
         ·cases h
       ·cases h
     ·cases h
   ·cases h
 · rename_i c
   obtain⟨cl,as,ts⟩:=c;simp only at h;split at h
   · rename_i x t h1 h2
     have e1:as=#[x]:=by rw[←Array.toList_inj];exact h1
     have e2:ts=#[t]:=by rw[←Array.toList_inj];exact h2
     subst e1 e2;split at h
     · rename_i i hx
       split at h
       · rename_i j c K E hf hu
         have hi:=(Kq hf).2;split at h
         · rename_i m hc
           cases h;refine⟨by simp only[bel],fun σ=>fun a w ha hw=>?_⟩;have hx':=evv (σ:=σ) hx;have h1:=hw _ (av (Qz (σ:=σ) hf));unfold ck at h1;rw[hc]at h1;obtain⟨es,clock,h3,h4⟩:=h1;rw[hi]at h3;have h5:es.size=m.length:=by
            have:=aPe List.length h4;simpa[entries,Jq,prs]using this
           unfold execOp;simp[ho,resolve,invoke,builtin,ha.eval hx',Builtin.len_,run_underlying hu,getObj,Sem.run,h3,goInt,h5,val]
         ·cases h
       ·cases h
     ·cases h
   ·cases h
 ·cases h
theorem bytes_beq(a b:yB):(a==b)=decide (a=b):=by
 obtain⟨x⟩:=a;obtain⟨y⟩:=b;show(x==y)=_;rw[Bool.eq_iff_iff,beq_iff_eq,aQx];constructor
 ·intro h;rw[h]
 ·intro h;exact aPe ByteArray.data h
theorem lF.str{K:tI}(h:P.underlying K=some .string):lF P K (fun b:yB=> .string b) where
 same a b w:=by
  show(Op.equalIn (9999+1) K (.string a) (.string b)).run P w=_;rw[run_equalIn_string (w:=w) 9999 K a b h];congr 1;rw[ByteArray.toList_eq,ByteArray.toList_eq,Bool.eq_iff_iff,beq_iff_eq,aQx];constructor
  ·intro h;exact ByteArray.ext (Array.toList_inj.1 h)
  ·intro h;rw[h]
 now d hd:=by
  rw[h]at hd;obtain rfl:=aPq hd;refine .inr fun a b=>?_;simp only[Instr.sameNow];congr 1;rw[bytes_beq]
 und:=⟨_,h⟩
 check e a w:=by
  show(Instr.checkKey e (9999+1) K (.string a)).run P w=_;unfold Instr.checkKey;simp[run_underlying h]
 bits a:=by show Instr.sameBits 10000 (.string a) (.string a)=true;simp[Instr.sameBits,bytes_beq]
theorem Qr{a b:List Nat}:fT a=fT b↔cZ a b=true:=by
 rw[←dA,beq_iff_eq,←Rl,←Rl];constructor
 ·intro h;rw[h]
 · intro h
   rw[ByteArray.toList_eq,ByteArray.toList_eq]at h;exact ByteArray.ext (Array.toList_inj.1 h)
theorem MV{m:List (List Nat×AV)}{x:List Nat}:prs σ (mH m x v)=Xb (prs σ m) (fT x) (val σ v):=by
 induction m with
 |nil=>rfl
 | cons p r ih=>
   obtain⟨y,u⟩:=p;unfold mH;show _=Xb ((fT y,val σ u)::prs σ r) (fT x) (val σ v);cases he:cZ x y with
   | true=>
     have:=Qr.2 he;simp[prs,Xb,this]
   | false=>
     have:fT x≠fT y:=fun e=>by rw[Qr.1 e]at he;cases he
     simp only[cond_false,Xb,aPf this,←ih];rfl
theorem MW{m:List (List Nat×AV)}{x:List Nat}(h:∀p∈m,bel k p.2)(hv:bel k v):∀p∈mH m x v,bel k p.2:=by
 induction m with
 |nil=>intro p hp;rw[aPj.1 hp];exact hv
 | cons q r ih=>
   obtain⟨y,u⟩:=q;intro p hp;unfold mH at hp;cases he:cZ x y with
   | true=>
     rw[he]at hp;rcases aPi.1 hp with rfl|hp
     ·exact hv
     ·exact h p (aPb _ hp)
   | false=>
     rw[he]at hp;rcases aPi.1 hp with rfl|hp
     ·exact h _ (aPc ..)
     ·exact ih (fun p hp=>h p (aPb _ hp)) p hp
theorem JF{us:List AV}(h:us.all one=true):(Dp σ us).all (·.oneCell')=true:=by
 rw[Eg,List.all_map,aRd];intro z hz;exact uU σ (aRd.1 h z hz)
theorem aFv (hk:4096≤k)(hb:Rk k ρ)(hM:Lm k M)(h:upA P ρ M o.op=some M'):aC P o ρ M k (.up M'):=by
 generalize ho:o.op=op at h;unfold upA at h;split at h
 · rename_i ty x y
   split at h
   · rename_i i q v hx hy
     have hv:=Gv hk hb hy;split at h
     · rename_i j c hf
       have hi:=(Kq hf).2;have hc:=hM c (Qp hf);split at h
       · rename_i n hr
         split at h
         · rename_i us
           cases hq:(Nat.beq us.length n&&us.all one)with
           |false=>rw[hq]at h;cases h
           | true=>
             rw[hq]at h;simp only[aQw]at h;rw[aPk]at hq;split at h
             · rename_i c' hp
               cases h;simp only[bel]at hv;obtain⟨g1,g2⟩:=xQ hp hc hv;refine⟨Xy hM g1,fun σ=>?_⟩;have hx':=evv (σ:=σ) hx;have hy':=evv (σ:=σ) hy;rw[←hi]at hx';rw[jK];exact Co ho hx' hy' (uV hr) (by rw[Ip];exact aPp hq.1) (JF hq.2) (Qz hf) (JA hp)
             ·cases h
         ·cases h
       · cases hq:(cO P ty&&one v)with
         |false=>rw[hq]at h;cases h
         | true=>
           rw[hq]at h;simp only[aQw]at h;rw[aPk]at hq;split at h
           · rename_i c' hp
             cases h;obtain⟨g1,g2⟩:=xQ hp hc (by simp only[Es];exact⟨hv,trivial⟩);refine⟨Xy hM g1,fun σ=>?_⟩;have hx':=evv (σ:=σ) hx;have hy':=Ij (σ:=σ) hy;rw[←hi]at hx';rw[jK];exact df ho hx' hy' (lU hq.1) (uU σ hq.2) (Qz hf) (JA hp)
           ·cases h
     ·cases h
   ·cases h
 · rename_i t x y z
   split at h
   · rename_i i s v hx hy hz
     have hv:=Gv hk hb hz;split at h
     · rename_i j c K E hf hu
       have hi:=(Kq hf).2;have hc:=hM c (Qp hf);split at h
       · rename_i m hkd
         cases hq:Rh P K with
         |false=>rw[hq]at h;cases h
         | true=>
           rw[hq]at h;cases h;have hm:=hc.kd;rw[hkd]at hm;refine⟨Xy hM ⟨hc.pl,MW hm hv,hc.cs⟩,fun σ=>?_⟩;have hx':=evv (σ:=σ) hx;have hy':=evv (σ:=σ) hy;have hz':=Ij (σ:=σ) hz;rw[←hi]at hx';have hg:=Qz (σ:=σ) hf;have e1:ck σ c=Zw (fun b:yB=> .string b) (fun v:vU=>v) (bl σ c.i) (prs σ m):=by unfold ck;rw[hkd]
           have e2:ck σ ⟨c.i, .maps (mH m s v),c.cs⟩=Zw (fun b:yB=> .string b) (fun v:vU=>v) (bl σ c.i) (Xb (prs σ m) (fT s) (val σ v)):=by unfold ck;simp only[MV]
           rw[e1]at hg;rw[jK,e2];exact Up.mapUpdate (lF.str (Qq hq)) ho hu hx' hy' hz' hg
       ·cases h
     ·cases h
   ·cases h
 ·cases h
end
end Go.In

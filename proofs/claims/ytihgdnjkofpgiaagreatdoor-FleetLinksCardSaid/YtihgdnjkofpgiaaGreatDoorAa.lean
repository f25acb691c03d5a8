/- Own text. -/
import Derived.Test.YtihgdnjkofpgiaaGreatDoorL3
import Derived.Laws.Strings2
import Derived.Laws.Concat
import Derived.Lib.Builder
set_option linter.unusedVariables false
set_option linter.unusedSimpArgs false
namespace Go.In
open Go.RowKit Go.Flow Go.Mem Go.Sep
inductive AV where
 |bool (b:Bool)
 |int (k:IntKind) (n:Int)
 |str (s:List Nat)
 |ptr (i off:Nat)
 |nilp
 |sl (i off len cap:Nat)
 |slu (i off len c d:Nat)
 |nils
 |mp (i:Nat)
 |nilm
 |nilf
 |nili
 |und
 |fn (f:FuncId) (fst cap:List AV)
 |ifc (t:tI) (v:AV)
 |agg (l:List AV)
 |tup (l:List AV)
def bl(σ:Nat→Nat)(i:Nat):Nat:=bif Nat.blt i 4096 then i else σ i
def fT(l:List Nat):yB:=⟨(l.map UInt8.ofNat).toArray⟩
mutual
def val(σ:Nat→Nat):AV→vU
 | .bool b=> .bool b
 | .int k n=> .int k n
 | .str s=> .string (fT s)
 | .ptr i o=> .pointer (some ⟨bl σ i,o,none⟩)
 | .nilp=> .pointer none
 | .sl i o l c=> .slice (some ⟨bl σ i,o,none⟩) l c
 | .slu i o l c d=> .slice (some ⟨bl σ i,o,none⟩) l (d+σ c)
 | .nils=> .slice none 0 0
 | .mp i=> .map (some (bl σ i))
 | .nilm=> .map none
 | .nilf=> .nilFunc
 | .nili=> .nilIface
 | .und=>undef
 | .fn f fst cap=> .func (.func f) (Dm σ fst).toArray (Dm σ cap).toArray
 | .ifc t v=> .iface t (val σ v)
 | .agg l=> .agg (Dm σ l).toArray
 | .tup l=> .tuple (Dm σ l).toArray
def Dm(σ:Nat→Nat):List AV→List vU
 |[]=>[]
 |v::l=>val σ v::Dm σ l
end
abbrev Dn:=List (Nat×AV)
def Sr:Dn→Nat→oP AV
 |[],_=>none
 |(k,v)::r,t=>bif Nat.beq k t then some v else Sr r t
def ofc:vU→oP AV
 | .bool b=>some (.bool b)
 | .int k n=>some (.int k n)
 | .string s=>some (.str (s.data.toList.map UInt8.toNat))
 | .pointer none=>some .nilp
 | .slice none 0 0=>some .nils
 | .map none=>some .nilm
 | .nilFunc=>some .nilf
 | .nilIface=>some .nili
 |_=>none
def kW:List vU→oP (List AV)
 |[]=>some []
 | u::r=>match ofc u,kW r with
   |some v,some l=>some (v::l)
   |_,_=>none
def back:vU→oP AV
 | .tuple l=>(kW l.toList).map .tup
 | .agg l=>(kW l.toList).map .agg
 |u=>ofc u
def aev(ρ:Dn):Operand→oP AV
 | .tmp t=>Sr ρ t
 | .const v=>back v
 | .global g=>bif Nat.blt g 4096 then some (.ptr g 0)else none
 | .func f=>some (.fn f [] [])
def oU(ρ:Dn):List Operand→oP (List AV)
 |[]=>some []
 | x::r=>match aev ρ x,oU ρ r with
   |some v,some l=>some (v::l)
   |_,_=>none
def Jo(σ:Nat→Nat)(ρ:Dn):Bj:=ρ.map fun p=>(p.1,val σ p.2)
theorem Dy(σ:Nat→Nat):∀l:List AV,Dm σ l=l.map (val σ)
 |[]=>by simp only[Dm,aPq]
 |v::l=>by simp only[Dm,aOw,Dy σ l]
theorem Ph(σ:Nat→Nat):∀{ρ:Dn} {t:Nat} {v:AV},Sr ρ t=some v→Sep.look (Jo σ ρ) t=some (val σ v)
 |[],_,_,h=>by simp[Sr]at h
 | (k,u)::r,t,v,h=>by
   unfold Sr at h;show(bif Nat.beq k t then some (val σ u)else Sep.look (Jo σ r) t)=_;cases hb:Nat.beq k t with
   |true=>rw[hb]at h;simp only[aPo,aOi]at h⊢;rw[h]
   |false=>rw[hb]at h;simp only[cond_false]at h⊢;exact Ph σ h
theorem CV(s:yB):fT (s.data.toList.map UInt8.toNat)=s:=by
 obtain⟨⟨l⟩⟩:=s;unfold fT;simp[aQe,Function.comp_def]
theorem GZ{σ:Nat→Nat}{u:vU}{v:AV}(h:ofc u=some v):u=val σ v:=by
 unfold ofc at h;split at h<;>first|(simp only[aOi]at h;subst h;simp[val,CV])|cases h
theorem Wx{σ:Nat→Nat}:∀{us:List vU} {l:List AV},kW us=some l→us=Dm σ l
 |[],l,h=>by simp only[kW,aOi]at h;subst h;rfl
 | u ::r,l,h=>by
   unfold kW at h;split at h
   · rename_i v l' h1 h2
     simp only[aOi]at h;subst h;simp only[Dm,←GZ (σ:=σ) h1,←Wx (σ:=σ) h2]
   ·cases h
theorem Wy{u:vU}{v:AV}(h:back u=some v)(σ:Nat→Nat):u=val σ v:=by
 unfold back at h;split at h
 · rename_i l
   obtain⟨l',h1,rfl⟩:=aOr.1 h;simp only[val,←Wx (σ:=σ) h1]
 · rename_i l
   obtain⟨l',h1,rfl⟩:=aOr.1 h;simp only[val,←Wx (σ:=σ) h1]
 ·exact GZ h
theorem Ih{σ:Nat→Nat}{ρ:Dn}{x:Operand}{v:AV}(h:aev ρ x=some v):ev (Jo σ ρ) x=some (val σ v):=by
 cases x with
 |tmp t=>exact Ph σ h
 |const u=>exact aOa some (Wy h σ)
 | global g=>
   have h:(bif Nat.blt g 4096 then some (AV.ptr g 0)else none)=some v:=h;cases hb:Nat.blt g 4096 with
   |false=>rw[hb]at h;cases h
   |true=>rw[hb]at h;simp only[aPo,aOi]at h;subst h;simp only[ev,val,bl,hb,aPo]
 |func f=>simp only[aev,aOi]at h;subst h;simp[ev,val,Dm]
theorem aY{σ:Nat→Nat}{ρ:Dn}:∀{xs:List Operand} {l:List AV},oU ρ xs=some l→evs (Jo σ ρ) xs=some (Dm σ l)
 |[],l,h=>by simp only[oU,aOi]at h;subst h;simp[evs,Dm]
 | x ::r,l,h=>by
   unfold oU at h;split at h
   · rename_i v l' h1 h2
     simp only[aOi]at h;subst h;simp only[evs,Ih (σ:=σ) h1,aY (σ:=σ) h2,Dm]
   ·cases h
mutual
def bq(k:Nat):AV→Prop
 | .ptr i _=>i<k
 | .sl i _ _ _=>i<k
 | .slu i _ _ c _=>i<k∧c<k
 | .mp i=>i<k
 | .fn _ fst cap=>Ej k fst∧Ej k cap
 | .ifc _ v=>bq k v
 | .agg l=>Ej k l
 | .tup l=>Ej k l
 |_=>True
def Ej(k:Nat):List AV→Prop
 |[]=>True
 |v::l=>bq k v∧Ej k l
end
theorem Lu{k:Nat}:∀{l:List AV},Ej k l↔ ∀v∈l,bq k v
 |[]=>by simp[Ej]
 |v::l=>by simp only[Ej,aNx,forall_eq_or_imp,Lu (l:=l)]
theorem Ur{k:Nat}{σ σ':Nat→Nat}(he:∀i,i<k→σ i=σ' i){i:Nat}(h:i<k):bl σ i=bl σ' i:=by unfold bl;rw[he i h]
mutual
theorem Yj{k:Nat}{σ σ':Nat→Nat}(he:∀i,i<k→σ i=σ' i):∀v:AV,bq k v→val σ v=val σ' v
 | .ptr i _,h=>by simp only[bq]at h;simp only[val,Ur he h]
 | .sl i _ _ _,h=>by simp only[bq]at h;simp only[val,Ur he h]
 | .slu i _ _ c _,h=>by simp only[bq]at h;simp only[val,Ur he h.1,he c h.2]
 | .mp i,h=>by simp only[bq]at h;simp only[val,Ur he h]
 | .fn _ fst cap,h=>by simp only[bq]at h;simp only[val,Mg he fst h.1,Mg he cap h.2]
 | .ifc _ v,h=>by simp only[bq]at h;simp only[val,Yj he v h]
 | .agg l,h=>by simp only[bq]at h;simp only[val,Mg he l h]
 | .tup l,h=>by simp only[bq]at h;simp only[val,Mg he l h]
 | .bool _,_=>by simp only[val]
 | .int _ _,_=>by simp only[val]
 | .str _,_=>by simp only[val]
 | .nilp,_=>by simp only[val]
 | .nils,_=>by simp only[val]
 | .nilm,_=>by simp only[val]
 | .nilf,_=>by simp only[val]
 | .nili,_=>by simp only[val]
 | .und,_=>by simp only[val]
theorem Mg{k:Nat}{σ σ':Nat→Nat}(he:∀i,i<k→σ i=σ' i):∀l:List AV,Ej k l→Dm σ l=Dm σ' l
 |[],_=>by simp only[Dm]
 |v::l,h=>by simp only[Ej]at h;simp only[Dm,Yj he v h.1,Mg he l h.2]
end
mutual
theorem tJ{k k':Nat}(hk:k≤k'):∀v:AV,bq k v→bq k' v
 | .ptr i _,h=>by simp only[bq]at h⊢;omega
 | .sl i _ _ _,h=>by simp only[bq]at h⊢;omega
 | .slu i _ _ _ _,h=>by simp only[bq]at h⊢;omega
 | .mp i,h=>by simp only[bq]at h⊢;omega
 | .fn _ fst cap,h=>by simp only[bq]at h⊢;exact⟨Ot hk fst h.1,Ot hk cap h.2⟩
 | .ifc _ v,h=>by simp only[bq]at h⊢;exact tJ hk v h
 | .agg l,h=>by simp only[bq]at h⊢;exact Ot hk l h
 | .tup l,h=>by simp only[bq]at h⊢;exact Ot hk l h
 | .bool _,_=>by simp only[bq]
 | .int _ _,_=>by simp only[bq]
 | .str _,_=>by simp only[bq]
 | .nilp,_=>by simp only[bq]
 | .nils,_=>by simp only[bq]
 | .nilm,_=>by simp only[bq]
 | .nilf,_=>by simp only[bq]
 | .nili,_=>by simp only[bq]
 | .und,_=>by simp only[bq]
theorem Ot{k k':Nat}(hk:k≤k'):∀l:List AV,Ej k l→Ej k' l
 |[],_=>by simp only[Ej]
 |v::l,h=>by simp only[Ej]at h⊢;exact⟨tJ hk v h.1,Ot hk l h.2⟩
end
def Qy(k:Nat)(ρ:Dn):Prop:=∀p∈ρ,bq k p.2
theorem Qe{k:Nat}{σ σ':Nat→Nat}(he:∀i,i<k→σ i=σ' i){ρ:Dn}(h:Qy k ρ):Jo σ ρ=Jo σ' ρ:=by
 unfold Jo;exact List.map_congr_left fun p hp=>by rw[Yj he p.2 (h p hp)]
theorem aZ{k:Nat}:∀{ρ:Dn} {t:Nat} {v:AV},Qy k ρ→Sr ρ t=some v→bq k v
 |[],_,_,_,h=>by simp[Sr]at h
 | (i,u)::r,t,v,hb,h=>by
   unfold Sr at h;cases hi:Nat.beq i t with
   |true=>rw[hi]at h;simp only[aPo,aOi]at h;subst h;exact hb _ (aNu ..)
   |false=>rw[hi]at h;simp only[cond_false]at h;exact aZ (fun p hp=>hb p (aNs _ hp)) h
theorem HV{k:Nat}{u:vU}{v:AV}(h:ofc u=some v):bq k v:=by
 unfold ofc at h;split at h<;>first|(simp only[aOi]at h;subst h;simp[bq])|cases h
theorem Tu{k:Nat}:∀{us:List vU} {l:List AV},kW us=some l→Ej k l
 |[],l,h=>by simp only[kW,aOi]at h;subst h;simp[Ej]
 | u ::r,l,h=>by
   unfold kW at h;split at h
   · rename_i v l' h1 h2
     simp only[aOi]at h;subst h;simp only[Ej];exact⟨HV h1,Tu h2⟩
   ·cases h
theorem Wz{u:vU}{v:AV}{k:Nat}(h:back u=some v):bq k v:=by
 unfold back at h;split at h
 · obtain⟨l',h1,rfl⟩:=aOr.1 h
   simp only[bq];exact Tu h1
 · obtain⟨l',h1,rfl⟩:=aOr.1 h
   simp only[bq];exact Tu h1
 ·exact HV h
theorem Gr{k:Nat}(hk:4096≤k){ρ:Dn}{x:Operand}{v:AV}(hb:Qy k ρ)(h:aev ρ x=some v):bq k v:=by
 cases x with
 |tmp t=>exact aZ hb h
 |const u=>exact Wz h
 | global g=>
   have h':(bif Nat.blt g 4096 then some (AV.ptr g 0)else none)=some v:=h;cases hg:Nat.blt g 4096 with
   |false=>rw[hg]at h';cases h'
   | true=>
     rw[hg]at h';simp only[aPo,aOi]at h';subst h';simp only[bq];exact aQo (aNt hg) hk
 |func f=>simp only[aev,aOi]at h;subst h;simp[bq,Ej]
theorem bB{k:Nat}(hk:4096≤k){ρ:Dn}(hb:Qy k ρ):∀{xs:List Operand} {l:List AV},oU ρ xs=some l→Ej k l
 |[],l,h=>by simp only[oU,aOi]at h;subst h;simp[Ej]
 | x ::r,l,h=>by
   unfold oU at h;split at h
   · rename_i v l' h1 h2
     simp only[aOi]at h;subst h;simp only[Ej];exact⟨Gr hk hb h1,bB hk hb h2⟩
   ·cases h
def one:AV→Bool
 | .agg _=>false
 | .tup _=>false
 | .und=>false
 |_=>true
theorem tK(σ:Nat→Nat){v:AV}(h:one v=true):(val σ v).oneCell'=true:=by
 cases v<;>first|(simp only[val];rfl)|(exact Bool.noConfusion h)
def QS(P:pG)(ty:tI):oP Nat:=
 match P.underlying ty with
 |some d=>bif d.isRow then(P.info? ty).map (·.size)else none
 |none=>none
def bC(P:pG)(ty:tI):Bool:=
 match P.underlying ty with
 | some d=>bif d.isRow then false else match P.info? ty with
   |some i=>Nat.beq i.size 1
   |none=>false
 |none=>false
def eH(P:pG)(ty:tI):oP (List AV):=
 match P.info? ty with
 | some i=>match i.zero with
   |some z=>kW z.cells.toList
   |none=>none
 |none=>none
def CW(P:pG)(s:tI)(f:Nat):oP Nat:=
 match P.underlying s with
 | some (.struct fs)=>match fs[f]? with
   | some fd=>match P.info? fd.type with
     |some i=>bif Nat.blt 0 i.size then some fd.offset else none
     |none=>none
   |none=>none
 |_=>none
structure SI where
 e:Nat
 size:Nat
 bytes:Nat
 zs:List AV
def Ou(P:pG)(t:tI):oP SI:=
 match P.underlying t with
 | some (.slice e)=>match P.info? e with
   | some i=>match i.zero with
     | some z=>match kW z.cells.toList with
       |some zs=>bif Nat.beq zs.length i.size&&Nat.blt 0 i.size&&zs.all one then some ⟨e,i.size,i.bytes,zs⟩else none
       |none=>none
     |none=>none
   |none=>none
 |_=>none
def LF(P:pG)(t:tI):oP (Nat×Nat×Nat):=
 match P.underlying t with
 |some (.array n e)=>(P.info? e).map fun i=>(n,e,i.size)
 |_=>none
section
variable{P:pG}{σ:Nat→Nat}
theorem tL{ty:tI}{n:Nat}(h:QS P ty=some n):Ff P ty n:=by
 unfold QS at h;split at h
 · rename_i d hd
   cases hr:d.isRow with
   |true=>rw[hr]at h;exact Ff.of hd hr h
   |false=>rw[hr]at h;cases h
 ·cases h
theorem kX{ty:tI}(h:bC P ty=true):Ca P ty:=by
 unfold bC at h;split at h
 · rename_i d hd
   cases hr:d.isRow with
   |true=>rw[hr]at h;cases h
   | false=>
     rw[hr]at h;simp only[cond_false]at h;split at h
     ·rename_i i hi;exact Ca.of hd hr (by rw[hi];exact aOa some (aOg h))
     ·cases h
 ·cases h
theorem eO{ty:tI}{zs:List AV}(h:eH P ty=some zs)(σ:Nat→Nat):De P ty (Dm σ zs):=by
 unfold eH at h;split at h
 · rename_i i hi
   split at h
   · rename_i z hz
     refine⟨?_⟩;rw[hi,←Wx (σ:=σ) h];simp[hz]
   ·cases h
 ·cases h
theorem Xa{ty:tI}{zs:List AV}{k:Nat}(h:eH P ty=some zs):Ej k zs:=by
 unfold eH at h;split at h
 · split at h
   ·exact Tu h
   ·cases h
 ·cases h
theorem LG{s:tI}{f k:Nat}(h:CW P s f=some k):Qx P s f k:=by
 unfold CW at h;split at h
 · rename_i fs hs
   split at h
   · rename_i fd hf
     split at h
     · rename_i i hi
       cases hb:Nat.blt 0 i.size with
       |false=>rw[hb]at h;cases h
       |true=>rw[hb]at h;cases h;exact⟨fs,fd,i,hs,hf,rfl,hi,aNt hb⟩
     ·cases h
   ·cases h
 ·cases h
theorem Jw{t:tI}{s:SI}(h:Ou P t=some s)(σ:Nat→Nat):Ce P t s.e s.size s.bytes (Dm σ s.zs):=by
 unfold Ou at h;split at h
 · rename_i e ht
   split at h
   · rename_i i hi
     split at h
     · rename_i z hz
       split at h
       · rename_i zs hzs
         cases hb:(Nat.beq zs.length i.size&&Nat.blt 0 i.size&&zs.all one)with
         |false=>rw[hb]at h;cases h
         | true=>
           rw[hb]at h;cases h;simp only[aOc]at hb;obtain⟨⟨h1,h2⟩,h3⟩:=hb;refine⟨ht,⟨i,z,hi,hz,rfl,rfl,?_⟩,?_,aNt h2,?_⟩
           ·rw[←Wx (σ:=σ) hzs]
           ·rw[Dy,aNv];exact aOg h1
           · intro u hu
             rw[Dy]at hu;obtain⟨v,hv,rfl⟩:=aOm.1 hu;exact tK σ (aPt.1 h3 v hv)
       ·cases h
     ·cases h
   ·cases h
 ·cases h
theorem wO{t:tI}{s:SI}{k:Nat}(h:Ou P t=some s):Ej k s.zs:=by
 unfold Ou at h;split at h
 · split at h
   · split at h
     · split at h
       · rename_i zs hzs
         cases hb:(Nat.beq zs.length _&&Nat.blt 0 _&&zs.all one)with
         |false=>rw[hb]at h;cases h
         |true=>rw[hb]at h;cases h;exact Tu hzs
       ·cases h
     ·cases h
   ·cases h
 ·cases h
theorem tN{t:tI}{n e size:Nat}(h:LF P t=some (n,e,size)):P.underlying t=some (.array n e)∧(P.info? e).map (·.size)=some size:=by
 unfold LF at h;split at h
 · rename_i n' e' ht
   cases hi:P.info? e' with
   |none=>rw[hi]at h;cases h
   |some i=>rw[hi]at h;cases h;exact⟨ht,by rw[hi];rfl⟩
 ·cases h
end
inductive AC where
 |kn (c:Nat)
 |un (c d:Nat)
def cp(σ:Nat→Nat):AC→Nat
 | .kn c=>c
 | .un c d=>d+σ c
inductive MK where
 |box (t:Nat)
 |row (e size n:Nat) (c:AC)
 |ro
 |maps (m:List (List Nat×AV))
structure MC where
 i:Nat
 kd:MK
 cs:List AV
def prs(σ:Nat→Nat)(m:List (List Nat×AV)):List (yB×vU):=m.map fun p=>(fT p.1,val σ p.2)
def ck(σ:Nat→Nat)(c:MC):Ad:=
 match c.kd with
 | .box t=>Sep.box (bl σ c.i) (Dm σ c.cs) t
 | .row e size n cap=>Sep.row e size (some ⟨bl σ c.i,0,none⟩) n (cp σ cap) (Dm σ c.cs)
 | .ro=>Sep.ro (some ⟨bl σ c.i,0,none⟩) (Dm σ c.cs)
 | .maps m=>Za (fun b:yB=> .string b) (fun v:vU=>v) (bl σ c.i) (prs σ m)
def mem(σ:Nat→Nat)(M:List MC):List Ad:=M.map (ck σ)
def find:List MC→Nat→oP (Nat×MC)
 |[],_=>none
 | c::r,i=>bif Nat.beq c.i i then some (0,c)else match find r i with
   |some p=>some (p.1+1,p.2)
   |none=>none
theorem Kk{i:Nat}:∀{M:List MC} {j:Nat} {c:MC},find M i=some (j,c)→M[j]?=some c∧c.i=i
 |[],_,_,h=>by cases h
 | c ::r,j,d,h=>by
   unfold find at h;cases hb:Nat.beq c.i i with
   | true=>
     rw[hb]at h;simp only[aPo,aOi,Prod.mk.injEq]at h;obtain⟨rfl,rfl⟩:=h;exact⟨rfl,aOg hb⟩
   | false=>
     rw[hb]at h;simp only[cond_false]at h;split at h
     · rename_i p hf
       simp only[aOi,Prod.mk.injEq]at h;obtain⟨rfl,rfl⟩:=h;exact Kk (M:=r) hf
     ·cases h
theorem Qf{M:List MC}{i j:Nat}{c:MC}(h:find M i=some (j,c)):c∈M:=sN (Kk h).1
theorem Qo{σ:Nat→Nat}{M:List MC}{i j:Nat}{c:MC}(h:find M i=some (j,c)):(mem σ M)[j]?=some (ck σ c):=by
 unfold mem;rw[aOf,(Kk h).1];rfl
theorem iU{σ:Nat→Nat}{M:List MC}{j:Nat}{c:MC}:mem σ (M.set j c)=(mem σ M).set j (ck σ c):=by unfold mem;rw[List.map_set]
def CX(k:Nat):AC→Prop
 | .kn _=>True
 | .un c _=>c<k
def aIp(k:Nat):MK→Prop
 | .row _ _ _ c=>CX k c
 | .maps m=>∀p∈m,bq k p.2
 |_=>True
structure Zf(k:Nat)(c:MC):Prop where
 pl:c.i<k
 kd:aIp k c.kd
 cs:Ej k c.cs
def Le(k:Nat)(M:List MC):Prop:=∀c∈M,Zf k c
theorem aEs{k:Nat}{σ σ':Nat→Nat}(he:∀i,i<k→σ i=σ' i){c:MC}(h:Zf k c):ck σ c=ck σ' c:=by
 obtain⟨i,kd,cs⟩:=c;obtain⟨h1,h2,h3⟩:=h;simp only at h1 h2 h3;unfold ck;cases kd with
 |box t=>simp only[Ur he h1,Mg he cs h3]
 | row e size n c=>
   have:cp σ c=cp σ' c:=by
    cases c with
    |kn c=>rfl
    |un c d=>simp only[aIp,CX]at h2;simp only[cp,he c h2]
   simp only[Ur he h1,Mg he cs h3,this]
 |ro=>simp only[Ur he h1,Mg he cs h3]
 | maps m=>
   have:prs σ m=prs σ' m:=by
    unfold prs;exact List.map_congr_left fun p hp=>by rw[Yj he p.2 (h2 p hp)]
   simp only[Ur he h1,this]
theorem Li{k:Nat}{σ σ':Nat→Nat}(he:∀i,i<k→σ i=σ' i){M:List MC}(h:Le k M):mem σ M=mem σ' M:=by
 unfold mem;exact List.map_congr_left fun c hc=>aEs he (h c hc)
theorem QT{k k':Nat}(hk:k≤k'){c:MC}(h:Zf k c):Zf k' c:=by
 obtain⟨i,kd,cs⟩:=c;obtain⟨h1,h2,h3⟩:=h;refine⟨aQo h1 hk,?_,Ot hk _ h3⟩;cases kd with
 |box t=>trivial
 |ro=>trivial
 | row e size n c=>
   cases c with
   |kn c=>trivial
   |un c d=>exact aQo h2 hk
 |maps m=>exact fun p hp=>tJ hk _ (h2 p hp)
theorem Ov{k k':Nat}(hk:k≤k'){M:List MC}(h:Le k M):Le k' M:=fun c hc=>QT hk (h c hc)
theorem Xb{k:Nat}{M:List MC}{j:Nat}{c:MC}(hM:Le k M)(hc:Zf k c):Le k (M.set j c):=by
 intro d hd;rcases List.mem_or_eq_of_mem_set hd with h|h
 ·exact hM d h
 ·rw[h];exact hc
theorem Hg{k:Nat}{M N:List MC}(h1:Le k M)(h2:Le k N):Le k (M++N):=fun c hc=>(aPi.1 hc).elim (h1 c) (h2 c)
theorem LH{k:Nat}{c:MC}{M:List MC}(h1:Zf k c)(h2:Le k M):Le k (c::M):=fun d hd=>by
 rcases aNx.1 hd with rfl|hd
 ·exact h1
 ·exact h2 d hd
def Pi(c:MC):oP (List AV):=
 match c.kd with
 | .maps _=>none
 |_=>some c.cs
def iJ(xs:List AV)(o n:Nat):List AV:=(xs.drop o).take n
theorem wP{σ:Nat→Nat}{xs:List AV}{o n:Nat}:Dm σ (iJ xs o n)=sub (Dm σ xs) o n:=by
 unfold iJ sub;rw[Dy,Dy,aQu,List.map_drop]
theorem Iq{σ:Nat→Nat}{xs:List AV}:(Dm σ xs).length=xs.length:=by rw[Dy,aNv]
theorem kY{σ:Nat→Nat}{c:MC}{cs:List AV}(h:Pi c=some cs)(o n:Nat):(ck σ c).gives (bl σ c.i) o (Dm σ (iJ cs o n)):=by
 obtain⟨i,kd,cs'⟩:=c;rw[wP];unfold Pi at h;unfold ck;cases kd with
 |box t=>cases h;exact Ob (n:=n) rfl
 | row e size m c=>
   cases h;have:=pO (e:=e) (size:=size) (A:=some ⟨bl σ i,0,none⟩) (n:=m) (cap:=cp σ c) (o:=o) (k:=n) (xs:=Dm σ cs') rfl;simpa only[blk,ofs,Option.getD_some,aOz]using this
 | ro=>
   cases h;have:=Ev (A:=some ⟨bl σ i,0,none⟩) (o:=o) (k:=n) (xs:=Dm σ cs') rfl;simpa only[blk,ofs,Option.getD_some,aOz]using this
 |maps m=>cases h
theorem QU{xs:List AV}{o n:Nat}(h:Nat.ble (o+n) xs.length=true):(iJ xs o n).length=n:=by
 have:=aNt h;unfold iJ;rw[aOh,aPw];omega
theorem kZ{k:Nat}{xs:List AV}{o n:Nat}(h:Ej k xs):Ej k (iJ xs o n):=by
 rw[Lu]at h⊢;exact fun z hz=>h z (List.mem_of_mem_drop (aPv hz))
def gK(cs:List AV)(o:Nat)(us:List AV):List AV:=cs.take o++us++cs.drop (o+us.length)
theorem eP{σ:Nat→Nat}{cs us:List AV}{q:Nat}:Dm σ (gK cs q us)=over (Dm σ cs) q (Dm σ us):=by
 unfold gK over;simp only[Dy,aOb,aQu,List.map_drop,aNv]
theorem eQ{k:Nat}{cs us:List AV}{q:Nat}(h:Ej k cs)(h':Ej k us):Ej k (gK cs q us):=by
 rw[Lu]at h h'⊢;intro z hz;unfold gK at hz;rcases aPi.1 hz with hz|hz
 · rcases aPi.1 hz with hz|hz
   ·exact h z (aPv hz)
   ·exact h' z hz
 ·exact h z (List.mem_of_mem_drop hz)
def LJ(c:MC)(o:Nat)(us:List AV):oP MC:=
 match c.kd with
 | .box _=>bif Nat.ble (o+us.length) c.cs.length then some ⟨c.i,c.kd,gK c.cs o us⟩else none
 | .row _ size n _=>bif Nat.ble (o+us.length) (n*size)&& !us.isEmpty then some ⟨c.i,c.kd,gK c.cs o us⟩else none
 |_=>none
theorem HY{σ:Nat→Nat}{c c':MC}{o:Nat}{us:List AV}(h:LJ c o us=some c'):(ck σ c).takes (bl σ c.i) o (Dm σ us) (ck σ c'):=by
 obtain⟨i,kd,cs⟩:=c;unfold LJ at h;cases kd with
 | box t=>
   simp only at h;cases hb:Nat.ble (o+us.length) cs.length with
   |false=>rw[hb]at h;cases h
   | true=>
     rw[hb]at h;cases h;unfold ck;simp only[eP];exact Ye (by rw[Iq,Iq];exact hb) rfl
 | row e size n cap=>
   simp only at h;cases hb:(Nat.ble (o+us.length) (n*size)&& !us.isEmpty)with
   |false=>rw[hb]at h;cases h
   | true=>
     rw[hb]at h;cases h;rw[aOc]at hb;unfold ck;simp only[eP];have:=eF (e:=e) (size:=size) (A:=some ⟨bl σ i,0,none⟩) (n:=n) (cap:=cp σ cap) (off:=o) (xs:=Dm σ cs) (us:=Dm σ us) (by rw[Iq];exact aNt hb.1) (by
      intro h0;have:=aOa List.length h0;rw[Iq]at this;have h1:=hb.2;cases us with
      |nil=>cases h1
      |cons u us=>cases this) rfl
     simpa only[blk,ofs,Option.getD_some,aOz]using this
 |ro=>cases h
 |maps m=>cases h
theorem wQ{k:Nat}{c c':MC}{o:Nat}{us:List AV}(h:LJ c o us=some c')(hc:Zf k c)(hu:Ej k us):Zf k c'∧c'.i=c.i:=by
 obtain⟨i,kd,cs⟩:=c;unfold LJ at h;cases kd with
 | box t=>
   simp only at h;cases hb:Nat.ble (o+us.length) cs.length with
   |false=>rw[hb]at h;cases h
   |true=>rw[hb]at h;cases h;exact⟨⟨hc.pl,hc.kd,eQ hc.cs hu⟩,rfl⟩
 | row e size n cap=>
   simp only at h;cases hb:(Nat.ble (o+us.length) (n*size)&& !us.isEmpty)with
   |false=>rw[hb]at h;cases h
   |true=>rw[hb]at h;cases h;exact⟨⟨hc.pl,hc.kd,eQ hc.cs hu⟩,rfl⟩
 |ro=>cases h
 |maps m=>cases h
mutual
def gnd:AV→Bool
 | .ptr _ _=>false
 | .sl _ _ _ _=>false
 | .slu _ _ _ _ _=>false
 | .mp _=>false
 | .fn _ a b=>CY a&&CY b
 | .ifc _ v=>gnd v
 | .agg l=>CY l
 | .tup l=>CY l
 |_=>true
def CY:List AV→Bool
 |[]=>true
 |v::l=>gnd v&&CY l
end
mutual
theorem tO:∀(v:AV),gnd v=true→bq 0 v
 | .ptr _ _,h=>by simp[gnd]at h
 | .sl _ _ _ _,h=>by simp[gnd]at h
 | .slu _ _ _ _ _,h=>by simp[gnd]at h
 | .mp _,h=>by simp[gnd]at h
 | .fn _ a b,h=>by simp only[gnd,aOc]at h;simp only[bq];exact⟨Xc a h.1,Xc b h.2⟩
 | .ifc _ v,h=>by simp only[gnd]at h;simp only[bq];exact tO v h
 | .agg l,h=>by simp only[gnd]at h;simp only[bq];exact Xc l h
 | .tup l,h=>by simp only[gnd]at h;simp only[bq];exact Xc l h
 | .bool _,_=>by simp only[bq]
 | .int _ _,_=>by simp only[bq]
 | .str _,_=>by simp only[bq]
 | .nilp,_=>by simp only[bq]
 | .nils,_=>by simp only[bq]
 | .nilm,_=>by simp only[bq]
 | .nilf,_=>by simp only[bq]
 | .nili,_=>by simp only[bq]
 | .und,_=>by simp only[bq]
theorem Xc:∀(l:List AV),CY l=true→Ej 0 l
 |[],_=>by simp only[Ej]
 |v::l,h=>by simp only[CY,aOc]at h;simp only[Ej];exact⟨tO v h.1,Xc l h.2⟩
end
def z0:Nat→Nat:=fun _=>0
theorem HZ{v:AV}(h:gnd v=true)(σ:Nat→Nat):val σ v=val z0 v:=Yj (k:=0) (fun _ hi=>aOx hi (Nat.not_lt_zero _)) v (tO v h)
def lC{α:Type}(P:pG):Nat→Sem α→oP α
 |0,_=>none
 |_+1, .pure v=>some v
 |n+1, .program k=>lC P n (k P)
 |n+1, .mark _ k=>lC P n k
 |_+1,_=>none
theorem Rq{α:Type}{P:pG}:∀{n:Nat} {x:Sem α} {v:α},lC P n x=some v→∀w,x.run P w= .ok v w
 |0,_,_,h,_=>by cases h
 |n+1, .pure u,v,h,w=>by simp only[lC,aOi]at h;subst h;rfl
 |n+1, .program k,v,h,w=>by simp only[lC]at h;exact Rq h w
 |n+1, .mark m k,v,h,w=>by simp only[lC]at h;exact Rq h w
 |n+1, .load _ _ _,v,h,w=>by cases h
 |n+1, .store _ _ _ _,v,h,w=>by cases h
 |n+1, .new _ _,v,h,w=>by cases h
 |n+1, .shape _ _,v,h,w=>by cases h
 |n+1, .freeze _ _ _,v,h,w=>by cases h
 |n+1, .frozen _ _,v,h,w=>by cases h
 |n+1, .getObj _ _,v,h,w=>by cases h
 |n+1, .setObj _ _ _,v,h,w=>by cases h
 |n+1, .choose _ _,v,h,w=>by cases h
 |n+1, .sys _ _,v,h,w=>by cases h
 |n+1, .halt _,v,h,w=>by cases h
def pX:Next→oP AV
 | .value v=>back v
 |_=>none
def gev(ρ:Dn)(x:Operand):oP vU:=
 match aev ρ x with
 |some v=>bif gnd v then some (val z0 v)else none
 |none=>none
def CZ(ρ:Dn):List Operand→oP (List vU)
 |[]=>some []
 | x::r=>match gev ρ x,CZ ρ r with
   |some v,some l=>some (v::l)
   |_,_=>none
theorem lD{ρ:Dn}{x:Operand}{v:vU}(h:gev ρ x=some v)(σ:Nat→Nat):ev (Jo σ ρ) x=some v:=by
 unfold gev at h;split at h
 · rename_i u hu
   cases hg:gnd u with
   |false=>rw[hg]at h;cases h
   |true=>rw[hg]at h;cases h;rw[Ih (σ:=σ) hu,HZ hg]
 ·cases h
theorem wR{ρ:Dn}(σ:Nat→Nat):∀{xs:List Operand} {l:List vU},CZ ρ xs=some l→evs (Jo σ ρ) xs=some l
 |[],l,h=>by simp only[CZ,aOi]at h;subst h;rfl
 | x ::r,l,h=>by
   unfold CZ at h;split at h
   · rename_i v l' h1 h2
     simp only[aOi]at h;subst h;simp only[evs,lD h1 σ,wR σ h2]
   ·cases h
def tT(P:pG)(ρ:Dn)(ty:tI):Op→oP AV
 | .binOp op t x y _=>match gev ρ x,gev ρ y with
   |some u,some v=>(lC P 99 (do eqGuard op t x y u v;binOp op t u v:Sem vU)).bind back
   |_,_=>none
 | .unOp op _ x=>match gev ρ x with
   |some u=>(lC P 99 (Op.unary op u)).bind back
   |none=>none
 | .convert s d x=>match gev ρ x with
   |some u=>(lC P 99 (convert s d u)).bind back
   |none=>none
 | .call c=>match c.callee with
   | .builtin b=>match CZ ρ c.args.toList with
     |some us=>(lC P 99 (builtin b c.argTypes ty (c.args.map fun| .const _=>true|_=>false) us.toArray)).bind pX
     |none=>none
   | .value (.func f)=>match CZ ρ c.args.toList with
     |some us=>(lC P 999 (callFunc f us.toArray)).bind pX
     |none=>none
   |_=>none
 |_=>none
section
variable{P:pG}{o:Oper}{ρ:Dn}{Γ:List Ad}{σ:Nat→Nat}{v:AV}{k:Nat}
theorem IA(h:tT P ρ o.type o.op=some v):Rd P o (Jo σ ρ) Γ (val σ v):=by
 generalize ho:o.op=op at h;unfold tT at h;split at h
 · split at h
   · rename_i u u' hx hy
     obtain⟨r,h1,h2⟩:=aPs.1 h;rw[←Wy h2 σ];exact dw ho (lD hx σ) (lD hy σ) (Rq h1)
   ·cases h
 · split at h
   · rename_i u hx
     obtain⟨r,h1,h2⟩:=aPs.1 h;rw[←Wy h2 σ];exact fun a w ha _=>by unfold execOp;simp[ho,ha.eval (lD hx σ),Rq h1]
   ·cases h
 · split at h
   · rename_i u hx
     obtain⟨r,h1,h2⟩:=aPs.1 h;rw[←Wy h2 σ];exact fun a w ha _=>by unfold execOp;simp[ho,ha.eval (lD hx σ),Rq h1]
   ·cases h
 · rename_i c
   obtain⟨cl,as,ts⟩:=c;have key:∀{us:List vU},CZ ρ as.toList=some us→∀a,Vz (Jo σ ρ) a→as.map a.eval=us.toArray:=fun hu a ha=>by
    have:=ha.evals (wR σ hu);rw[←Array.toList_inj];simpa using this
   have key2:∀{n:Next},pX n=some v→n= .value (val σ v):=fun{n} hn=>by
    unfold pX at hn;split at hn
    ·rw[Wy hn σ]
    ·cases hn
   split at h
   · rename_i b hc
     simp only at hc;subst hc;split at h
     · rename_i us hu
       obtain⟨r,h1,h2⟩:=aPs.1 h;have:=key2 h2;subst this;exact fun a w ha _=>by unfold execOp;simp only[ho,resolve,invoke,key hu a ha,aPg,aPp,aOy];exact Rq h1 w
     ·cases h
   · rename_i f hc
     simp only at hc;subst hc;split at h
     · rename_i us hu
       obtain⟨r,h1,h2⟩:=aPs.1 h;have:=key2 h2;subst this;exact fun a w ha _=>by
        unfold execOp;have hf:a.eval (.func f)= .func (.func f) #[] #[]:=rfl;simp[ho,resolve,hf,Deferred.ofValue,invoke,key hu a ha,Rq h1]
     ·cases h
   ·cases h
 ·cases h
theorem pY{n:Next}(h:pX n=some v):bq k v:=by
 unfold pX at h;split at h
 ·exact Wz h
 ·cases h
theorem wS{ty:tI}{op:Op}(h:tT P ρ ty op=some v):bq k v:=by
 unfold tT at h;split at h
 · split at h
   ·obtain⟨r,_,h2⟩:=aPs.1 h;exact Wz h2
   ·cases h
 · split at h
   ·obtain⟨r,_,h2⟩:=aPs.1 h;exact Wz h2
   ·cases h
 · split at h
   ·obtain⟨r,_,h2⟩:=aPs.1 h;exact Wz h2
   ·cases h
 · split at h
   · split at h
     ·obtain⟨r,_,h2⟩:=aPs.1 h;exact pY h2
     ·cases h
   · split at h
     ·obtain⟨r,_,h2⟩:=aPs.1 h;exact pY h2
     ·cases h
   ·cases h
 ·cases h
end
def wT(a b:IntKind):Bool:=decide (a=b)
def QV(op:BinOp)(k:IntKind)(m n:Int):oP AV:=
 match op with
 | .add=>some (.int k (k.wrap (m+n)))
 | .sub=>some (.int k (k.wrap (m-n)))
 | .mul=>some (.int k (k.wrap (m*n)))
 | .lss=>some (.bool (decide (m<n)))
 | .leq=>some (.bool (decide (m≤n)))
 | .gtr=>some (.bool (decide (m>n)))
 | .geq=>some (.bool (decide (m≥n)))
 | .eql=>some (.bool (decide (m=n)))
 | .neq=>some (.bool (decide (m≠n)))
 |_=>none
def bD:List Nat→List Nat→Bool
 |[],[]=>true
 |a::x,b::y=>bif Nat.beq (a%256) (b%256)then bD x y else false
 |_,_=>false
def QW(op:BinOp)(a b:List Nat):oP AV:=
 match op with
 | .eql=>some (.bool (bD a b))
 | .neq=>some (.bool (!bD a b))
 | .add=>bif Nat.ble (a.length+b.length) 9223372036854775807 then some (.str (a++b))else none
 |_=>none
def gL(P:pG)(t:tI):Bool:=
 match P.underlying t with
 |some (.pointer e)=>(P.info? e).isSome
 |_=>false
def tV(P:pG)(t:tI):Bool:=
 match P.underlying t with
 |some (.slice _)=>true
 |_=>false
def Qv(P:pG)(t:tI):Bool:=
 match P.underlying t with
 |some .string=>true
 |_=>false
def tX:BinOp→oP Bool
 | .eql=>some true
 | .neq=>some false
 |_=>none
def moveA(P:pG)(ρ:Dn):Op→oP AV
 | .move x=>aev ρ x
 | .assign x=>aev ρ x
 | .pick c a b=>match aev ρ c with
   |some (.bool true)=>aev ρ a
   |some (.bool false)=>aev ρ b
   |_=>none
 | .extract x i=>match aev ρ x with
   |some (.tup l)=>l[i]?
   |_=>none
 | .nilCheck x=>match aev ρ x with
   |some (.ptr i o)=>some (.ptr i o)
   |some (.fn f a b)=>some (.fn f a b)
   |_=>none
 | .unOp .not _ x=>match aev ρ x with
   |some (.bool b)=>some (.bool (!b))
   |_=>none
 | .binOp op t x y _=>match aev ρ x,aev ρ y with
   |some (.int k m),some (.int k' n)=>bif wT k k' then QV op k m n else none
   |some (.str a),some (.str b)=>QW op a b
   | some (.ptr i q),some (.nilp)=>match tX op with
     |some e=>bif gL P t then some (.bool (!e))else none
     |none=>none
   | some (.ptr i q),some (.ptr j r)=>match tX op with
     |some e=>bif gL P t&&Nat.beq i j&&Nat.beq q r then some (.bool e)else none
     |none=>none
   | some (.sl i q l c),some (.nils)=>match tX op with
     |some e=>bif tV P t then some (.bool (!e))else none
     |none=>none
   | some (.slu i q l c d),some (.nils)=>match tX op with
     |some e=>bif tV P t then some (.bool (!e))else none
     |none=>none
   |_,_=>none
 |_=>none
section
variable{P:pG}{o:Oper}{ρ:Dn}{Γ:List Ad}{σ:Nat→Nat}{v:AV}{k:Nat}
theorem XJ{op:BinOp}{k:IntKind}{m n:Int}{ρ:Bj}{x y:Operand}{t t':tI}(ho:o.op= .binOp op t x y t')(hx:ev ρ x=some (.int k m))(hy:ev ρ y=some (.int k n))(h:QV op k m n=some v):Rd P o ρ Γ (val σ v):=by
 unfold QV at h;split at h<;>first|cases h|(simp only[aOi]at h;subst h)
 ·exact dw ho hx hy fun w=>by simp[eqGuard,binOp,Op.intArith,val]
 ·exact dw ho hx hy fun w=>by simp[eqGuard,binOp,Op.intArith,val]
 ·exact dw ho hx hy fun w=>by simp[eqGuard,binOp,Op.intArith,val]
 ·exact Rd.lss ho hx hy
 ·exact Rd.leq ho hx hy
 ·exact Rd.gtr ho hx hy
 ·exact Rd.geq ho hx hy
 ·exact Rd.eql ho hx hy
 ·exact Rd.neq ho hx hy
theorem LK(a b:Nat):(UInt8.ofNat a==UInt8.ofNat b)=Nat.beq (a%256) (b%256):=by
 rw[Bool.eq_iff_iff,beq_iff_eq,Nat.beq_eq];constructor
 ·intro h;have:=aOa UInt8.toNat h;simpa using this
 ·intro h;apply UInt8.toNat_inj.1;simpa using h
theorem bF:∀a b:List Nat,((a.map UInt8.ofNat)==(b.map UInt8.ofNat))=bD a b
 |[],[]=>rfl
 |[],_::_=>rfl
 |_::_,[]=>rfl
 | a::x,b::y=>by
   show(UInt8.ofNat a==UInt8.ofNat b&&(x.map UInt8.ofNat)==(y.map UInt8.ofNat))=_;rw[LK,bF x y];show _=(bif Nat.beq (a%256) (b%256)then bD x y else false);cases Nat.beq (a%256) (b%256)<;>simp
theorem Qz(a:List Nat):(fT a).toList=a.map UInt8.ofNat:=by unfold fT;exact ByteArray.toList_mk _
theorem Am(a:List Nat):(fT a).size=a.length:=by unfold fT;simp[ByteArray.size]
theorem qA(a b:List Nat):fT a++fT b=fT (a++b):=by unfold fT;rw[ByteArray.mk_append_mk,aOb]
theorem Zg(a:List Nat)(l h:Nat):(fT a).extract l h=fT ((a.drop l).take (h-l)):=by unfold fT;rw[ByteArray.extract_mk,aQu,List.map_drop]
theorem XK{op:BinOp}{a b:List Nat}{ρ:Bj}{x y:Operand}{t t':tI}(ho:o.op= .binOp op t x y t')(hx:ev ρ x=some (.string (fT a)))(hy:ev ρ y=some (.string (fT b)))(h:QW op a b=some v):Rd P o ρ Γ (val σ v):=by
 unfold QW at h;split at h
 ·cases h;exact dw ho hx hy fun w=>by simp[eqGuard,binOp,Op.stringOp,val,Qz,bF]
 ·cases h;exact dw ho hx hy fun w=>by simp[eqGuard,binOp,Op.stringOp,val,Qz,bF]
 · cases hb:Nat.ble (a.length+b.length) 9223372036854775807 with
   |false=>rw[hb]at h;cases h
   | true=>
     rw[hb]at h;cases h;have hle:=aNt hb;refine dw ho hx hy fun w=>?_;have e:(fT a).size+(fT b).size=a.length+b.length:=by rw[Am,Am]
     simp only[eqGuard,binOp,Op.stringOp,val,e];have:¬((a.length+b.length:Nat):Int)>IntKind.i64.max:=by
      have:IntKind.i64.max=9223372036854775807:=by simp[IntKind.max,IntKind.signed,IntKind.bits]
      rw[this];omega
     simp only[aNy this,qA];simp
 ·cases h
theorem tY{op:BinOp}{e:Bool}(h:tX op=some e):(e=true∧op= .eql)∨(e=false∧op= .neq):=by
 unfold tX at h;split at h
 ·cases h;exact .inl ⟨rfl,rfl⟩
 ·cases h;exact .inr ⟨rfl,rfl⟩
 ·cases h
theorem wU{t:tI}(h:gL P t=true):∃e j,P.underlying t=some (.pointer e)∧P.info? e=some j:=by
 unfold gL at h;split at h
 · rename_i e he
   cases hj:P.info? e with
   |none=>rw[hj]at h;cases h
   |some j=>exact⟨e,j,he,hj⟩
 ·cases h
theorem IB{t:tI}(h:tV P t=true):∃e,P.underlying t=some (.slice e):=by
 unfold tV at h;split at h
 ·rename_i e he;exact⟨e,he⟩
 ·cases h
theorem Qg{t:tI}(h:Qv P t=true):P.underlying t=some .string:=by
 unfold Qv at h;split at h
 ·rename_i he;exact he
 ·cases h
theorem QX{op:BinOp}{e:Bool}{ρ:Bj}{x y:Operand}{t t':tI}{a:Addr}(ho:o.op= .binOp op t x y t')(he:tX op=some e)(ht:gL P t=true)(hx:ev ρ x=some (.pointer (some a)))(hy:ev ρ y=some (.pointer none)):Rd P o ρ Γ (.bool (!e)):=by
 obtain⟨te,j,h1,_⟩:=wU ht;rcases tY he with⟨rfl,rfl⟩|⟨rfl,rfl⟩
 ·exact Jg ho h1 hx hy
 ·exact KX ho h1 hx hy
theorem QY{op:BinOp}{e:Bool}{ρ:Bj}{x y:Operand}{t t':tI}{a:Addr}(ho:o.op= .binOp op t x y t')(he:tX op=some e)(ht:gL P t=true)(hx:ev ρ x=some (.pointer (some a)))(hy:ev ρ y=some (.pointer (some a))):Rd P o ρ Γ (.bool e):=by
 obtain⟨te,j,h1,h2⟩:=wU ht;refine dw ho hx hy fun w=>?_;have h:∀d:Nat,(Op.equalIn (d+1) t (.pointer (some a)) (.pointer (some a))).run P w= .ok true w:=fun d=>by
  simp[Op.equalIn,run_underlying h1,sizeOf,typeInfo,h2,run_sameAddr_same]
 rcases tY he with⟨rfl,rfl⟩|⟨rfl,rfl⟩
 ·simp only[eqGuard,binOp];simp[Op.equal,Op.maxDepth,h 9999]
 ·simp only[eqGuard,binOp];simp[Op.equal,Op.maxDepth,h 9999]
theorem IC{op:BinOp}{e:Bool}{ρ:Bj}{x y:Operand}{t t':tI}{a:Addr}{n c:Nat}(ho:o.op= .binOp op t x y t')(he:tX op=some e)(ht:tV P t=true)(hx:ev ρ x=some (.slice (some a) n c))(hy:ev ρ y=some (.slice none 0 0)):Rd P o ρ Γ (.bool (!e)):=by
 obtain⟨te,h1⟩:=IB ht;refine dw ho hx hy fun w=>?_;have h:(Op.equal t (.slice (some a) n c) (.slice none 0 0)).run P w= .ok false w:=by
  have key:∀d,(Op.equalIn (d+1) t (.slice (some a) n c) (.slice none 0 0)).run P w= .ok false w:=fun d=>by
   simp[Op.equalIn,run_underlying h1]
  exact key 9999
 rcases tY he with⟨rfl,rfl⟩|⟨rfl,rfl⟩
 ·simp[eqGuard,binOp,h]
 ·simp[eqGuard,binOp,h]
theorem evv{x:Operand}(h:aev ρ x=some v){u:vU}(hu:val σ v=u:=by first|(simp only[val];done)|(simp only[val];rfl)):ev (Jo σ ρ) x=some u:=by rw[Ih (σ:=σ) h,hu]
theorem QZ(h:moveA P ρ o.op=some v):Rd P o (Jo σ ρ) Γ (val σ v):=by
 generalize ho:o.op=op at h;unfold moveA at h;split at h
 ·exact dn ho (Ih h)
 ·exact Rd.assign ho (Ih h)
 · split at h
   ·rename_i hc;exact kF ho (evv hc) (Ih h)
   ·rename_i hc;exact kG ho (evv hc) (Ih h)
   ·cases h
 · split at h
   · rename_i l hx
     refine Rd.extract (vs:=Dm σ l) ho (evv hx) ?_;rw[Dy,aOf,h];rfl
   ·cases h
 · split at h
   ·rename_i hx;cases h;simp only[val];exact Rd.nilCheck ho (evv hx)
   ·rename_i hx;cases h;simp only[val];exact sV ho (evv hx)
   ·cases h
 · split at h
   ·rename_i hx;cases h;simp only[val];exact Rd.not ho (evv hx)
   ·cases h
 · split at h
   · rename_i hx hy
     cases hk:wT _ _ with
     |false=>rw[hk]at h;cases h
     | true=>
       rw[hk]at h;have e:=aQn hk;subst e;exact XJ ho (evv hx) (evv hy) h
   · rename_i hx hy
     exact XK ho (evv hx) (evv hy) h
   · rename_i hx hy
     split at h
     · rename_i e he
       cases hp:gL P _ with
       |false=>rw[hp]at h;cases h
       |true=>rw[hp]at h;cases h;simp only[val];exact QX ho he hp (evv hx) (evv hy)
     ·cases h
   · rename_i i q j r hx hy
     split at h
     · rename_i e he
       cases hp:(gL P _&&Nat.beq i j&&Nat.beq q r)with
       |false=>rw[hp]at h;cases h
       | true=>
         rw[hp]at h;cases h;simp only[aOc]at hp;obtain⟨⟨h1,h2⟩,h3⟩:=hp;have e1:=aOg h2;have e2:=aOg h3;subst e1 e2;simp only[val];exact QY ho he h1 (evv hx) (evv hy)
     ·cases h
   · rename_i hx hy
     split at h
     · rename_i e he
       cases hp:tV P _ with
       |false=>rw[hp]at h;cases h
       |true=>rw[hp]at h;cases h;simp only[val];exact IC ho he hp (evv hx) (evv hy)
     ·cases h
   · rename_i hx hy
     split at h
     · rename_i e he
       cases hp:tV P _ with
       |false=>rw[hp]at h;cases h
       |true=>rw[hp]at h;cases h;simp only[val];exact IC ho he hp (evv hx) (evv hy)
     ·cases h
   ·cases h
 ·cases h
theorem tZ{l:List AV}{i:Nat}(hb:Ej k l)(h:l[i]?=some v):bq k v:=Lu.1 hb v (sN h)
theorem RA{op:BinOp}{K:IntKind}{m n:Int}(h:QV op K m n=some v):bq k v:=by
 unfold QV at h;split at h<;>first|(simp only[aOi]at h;subst h;simp[bq])|cases h
theorem RB{op:BinOp}{a b:List Nat}(h:QW op a b=some v):bq k v:=by
 unfold QW at h;split at h
 ·cases h;simp[bq]
 ·cases h;simp[bq]
 · cases hb:Nat.ble (a.length+b.length) 9223372036854775807 with
   |false=>rw[hb]at h;cases h
   |true=>rw[hb]at h;cases h;simp[bq]
 ·cases h
theorem Na{c:Bool}{u v:AV}(h:(bif c then some u else none)=some v)(hu:bq k u):bq k v:=by
 cases c with
 |false=>cases h
 |true=>cases h;exact hu
theorem LM{op:Op}(hk:4096≤k)(hb:Qy k ρ)(h:moveA P ρ op=some v):bq k v:=by
 unfold moveA at h;split at h
 ·exact Gr hk hb h
 ·exact Gr hk hb h
 · split at h
   ·exact Gr hk hb h
   ·exact Gr hk hb h
   ·cases h
 · split at h
   ·rename_i l hx;have h2:=Gr hk hb hx;simp only[bq]at h2;exact tZ h2 h
   ·cases h
 · split at h
   ·rename_i hx;cases h;exact Gr hk hb hx
   ·rename_i hx;cases h;exact Gr hk hb hx
   ·cases h
 · split at h
   ·cases h;simp[bq]
   ·cases h
 · split at h
   · cases hk:wT _ _ with
     |false=>rw[hk]at h;cases h
     |true=>rw[hk]at h;exact RA h
   ·exact RB h
   · split at h
     ·exact Na h (by simp[bq])
     ·cases h
   · split at h
     ·exact Na h (by simp[bq])
     ·cases h
   · split at h
     ·exact Na h (by simp[bq])
     ·cases h
   · split at h
     ·exact Na h (by simp[bq])
     ·cases h
   ·cases h
 ·cases h
end
def slv:AV→oP (Nat×Nat×Nat×AC)
 | .sl i q l c=>some (i,q,l, .kn c)
 | .slu i q l c d=>some (i,q,l, .un c d)
 |_=>none
def LP(i q l:Nat):AC→AV
 | .kn c=> .sl i q l c
 | .un c d=> .slu i q l c d
def Oe:AC→Nat
 | .kn c=>c
 | .un _ d=>d
def wV(a:AC)(n:Nat):AC:=
 match a with
 | .kn c=> .kn (c-n)
 | .un c d=> .un c (d-n)
def XL(a:AC)(q lo size:Nat):oP Nat:=
 match a with
 | .kn c=>bif Nat.beq c lo then some q else some (q+lo*size)
 | .un _ d=>bif Nat.blt lo d then some (q+lo*size)else bif Nat.beq lo 0 then some q else none
def bG(ρ:Dn)(x:Operand):oP Nat:=
 match aev ρ x with
 |some (.int _ (.ofNat n))=>some n
 |_=>none
def gM(P:pG)(e:tI)(cs:List AV)(off:Nat):oP AV:=
 match QS P e with
 |some n=>bif Nat.ble (off+n) cs.length then some (.agg (iJ cs off n))else none
 |none=>bif bC P e then cs[off]? else none
def fieldV(P:pG)(t:tI)(f:Nat):oP (Nat×Nat):=
 match P.underlying t with
 | some (.struct fs)=>match fs[f]? with
   |some fd=>some (fd.offset,fd.type)
   |none=>none
 |_=>none
def Lf:AV→List AV
 | .agg l=>l
 |v=>[v]
def bH(place:Nat→oP (Nat×Nat))(cs:List AV):List (Nat×AV)→oP (List AV)
 |[]=>some cs
 | (i,v)::r=>match place i with
   |some (off,size)=>bif Nat.beq (Lf v).length size&&Nat.ble (off+(Lf v).length) cs.length then bH place (gK cs off (Lf v)) r else none
   |none=>none
def bI(P:pG):List Field→oP (List (Nat×Nat))
 |[]=>some []
 | f::r=>match P.info? f.type,bI P r with
   |some i,some l=>some ((f.offset,i.size)::l)
   |_,_=>none
def lF(P:pG)(t:tI)(parts:List (Nat×AV)):oP (List AV):=
 match eH P t,P.underlying t with
 | some zs,some (.struct fs)=>match bI P fs.toList with
   |some pl=>bH (fun i=>pl[i]?) zs parts
   |none=>none
 | some zs,some (.array _ e)=>match P.info? e with
   |some ie=>bH (fun i=>some (i*ie.size,ie.size)) zs parts
   |none=>none
 |_,_=>none
def Us(ρ:Dn):List (Nat×Operand)→oP (List (Nat×AV))
 |[]=>some []
 | (i,x)::r=>match aev ρ x,Us ρ r with
   |some v,some l=>some ((i,v)::l)
   |_,_=>none
def eT(size:Nat)(i q l:Nat)(a:AC)(lo hi:Nat):oP AV:=
 bif Nat.ble lo hi&&Nat.ble hi (Oe a)then(match XL a q lo size with
  |some q'=>some (LP i q' (hi-lo) (wV a lo))
  |none=>none)else none
def DC (P:pG)(ρ:Dn):Op→oP AV
 | .fieldAddr s x f=>match aev ρ x with
   | some (.ptr i o)=>match CW P s f with
     |some k=>some (.ptr i (o+k))
     |none=>none
   |_=>none
 | .indexAddr t x y=>match aev ρ x,bG ρ y with
   | some (.ptr i q),some j=>match LF P t with
     |some (n,_,size)=>bif Nat.blt j n then some (.ptr i (q+j*size))else none
     |none=>none
   | some v,some j=>match slv v,Ou P t with
     |some (i,q,l,_),some s=>bif Nat.blt j l then some (.ptr i (q+j*s.size))else none
     |_,_=>none
   |_,_=>none
 | .index t x y=>match aev ρ x,bG ρ y with
   | some (.str s),some j=>bif Qv P t then(match s[j]? with
     |some b=>some (.int .u8 (Int.ofNat (b%256)))
     |none=>none)else none
   | some (.agg cs),some j=>match LF P t with
     |some (n,e,size)=>bif Nat.blt j n then gM P e cs (j*size)else none
     |none=>none
   |_,_=>none
 | .field t x f=>match aev ρ x,fieldV P t f with
   |some (.agg cs),some (off,e)=>gM P e cs off
   |_,_=>none
 | .build t parts=>match Us ρ parts.toList with
   |some l=>(lF P t l).map .agg
   |none=>none
 | .makeFunc (.func f) xs ys=>match oU ρ xs.toList,oU ρ ys.toList with
   |some us,some vs=>some (.fn f us vs)
   |_,_=>none
 | .slice t x lo hi mx=>match mx with
   | none=>match aev ρ x with
     | some (.str s)=>bif Qv P t then(match(match lo with|none=>some 0|some y=>bG ρ y),(match hi with|none=>some s.length|some y=>bG ρ y)with
       |some a,some b=>bif Nat.ble a b&&Nat.ble b s.length then some (.str ((s.drop a).take (b-a)))else none
       |_,_=>none)else none
     | some v=>match slv v,Ou P t with
       | some (i,q,l,c),some s=>match lo,hi with
         |none,none=>some v
         | none,some y=>match bG ρ y with
           |some b=>bif Nat.ble b (Oe c)then some (LP i q b c)else none
           |none=>none
         | some x,none=>match bG ρ x with
           |some a=>bif Nat.ble l (Oe c)then eT s.size i q l c a l else none
           |none=>none
         | some x,some y=>match bG ρ x,bG ρ y with
           |some a,some b=>eT s.size i q l c a b
           |_,_=>none
       |_,_=>none
     |none=>none
   | some z=>match lo,hi with
     | none,some y=>match aev ρ x,bG ρ y,bG ρ z with
       |some .nils,some 0,some 0=>bif (Ou P t).isSome then some .nils else none
       | some v,some b,some m=>match slv v,Ou P t with
         |some (i,q,_,c),some _=>bif Nat.ble b m&&Nat.ble m (Oe c)then some (.sl i q b m)else none
         |_,_=>none
       |_,_,_=>none
     |_,_=>none
 | .call c=>match c.callee,c.args.toList,c.argTypes.toList with
   | .builtin .len,[x],[t]=>match aev ρ x with
     | some v=>match slv v with
       |some (_,_,l,_)=>bif tV P t then some (.int .i64 (Int.ofNat l))else none
       | none=>match v with
         | .str s=>bif Qv P t then some (.int .i64 (Int.ofNat s.length))else none
         |_=>none
     |none=>none
   | .builtin .unsafeSliceData,[x],[_]=>match aev ρ x with
     | some v=>match slv v with
       |some (i,q,_,c)=>bif Nat.blt 0 (Oe c)then some (.ptr i q)else none
       |none=>none
     |none=>none
   |_,_,_=>none
 |_=>none
section
variable{P:pG}{o:Oper}{ρ:Dn}{Γ:List Ad}{σ:Nat→Nat}{v:AV}{k:Nat}
theorem Yk{i q l:Nat}{c:AC}(h:slv v=some (i,q,l,c)):val σ v= .slice (some ⟨bl σ i,q,none⟩) l (cp σ c):=by
 cases v<;>first|(cases h;done)|(simp only[slv,aOi,Prod.mk.injEq]at h;obtain⟨rfl,rfl,rfl,rfl⟩:=h;simp only[val,cp])
theorem wW{i q l:Nat}{c:AC}:val σ (LP i q l c)= .slice (some ⟨bl σ i,q,none⟩) l (cp σ c):=by
 cases c<;>simp only[LP,val,cp]
theorem iV{i q l:Nat}{c:AC}(h:slv v=some (i,q,l,c))(hb:bq k v):i<k∧CX k c:=by
 cases v<;>first|(cases h;done)|(simp only[slv,aOi,Prod.mk.injEq]at h;obtain⟨rfl,rfl,rfl,rfl⟩:=h;simp only[bq]at hb;first|exact⟨hb,trivial⟩|exact hb)
theorem wX{i q l:Nat}{c:AC}(h:i<k)(hc:CX k c):bq k (LP i q l c):=by
 cases c<;>simp only[LP,bq]<;>first|exact h|exact⟨h,hc⟩
theorem Tv{c:AC}:Oe c≤cp σ c:=by cases c<;>simp only[Oe,cp]<;>omega
theorem RD{c:AC}{n:Nat}(h:n≤Oe c):cp σ (wV c n)=cp σ c-n:=by
 cases c with
 |kn c=>simp only[wV,cp]
 |un c d=>simp only[Oe]at h;simp only[wV,cp];omega
theorem LQ{c:AC}{n:Nat}(h:CX k c):CX k (wV c n):=by cases c<;>exact h
theorem LU{A:OA}{cap lo size:Nat}(h:cap=lo):slAt A cap lo size=A:=by unfold slAt;rw[aOn h]
theorem wY{b q cap lo size:Nat}(h:cap≠lo):slAt (some ⟨b,q,none⟩) cap lo size=some ⟨b,q+lo*size,none⟩:=by unfold slAt;rw[aNy h];simp[Addr.add]
theorem LV{b q cap size:Nat}:slAt (some ⟨b,q,none⟩) cap 0 size=some ⟨b,q,none⟩:=by unfold slAt;split<;>simp[Addr.add]
theorem XM{c:AC}{q lo size q' b:Nat}(h:XL c q lo size=some q'):slAt (some ⟨b,q,none⟩) (cp σ c) lo size=some ⟨b,q',none⟩:=by
 cases c with
 | kn c=>
   simp only[XL]at h;cases hb:Nat.beq c lo with
   |true=>rw[hb]at h;cases h;exact LU (aOg hb)
   | false=>
     rw[hb]at h;cases h;exact wY (fun e=>by rw[show c=lo from e,Nat.beq_refl]at hb;cases hb)
 | un c d=>
   simp only[XL]at h;cases hb:Nat.blt lo d with
   | true=>
     rw[hb]at h;cases h;have:=aNt hb;exact wY (by show d+σ c≠lo;omega)
   | false=>
     rw[hb]at h;simp only[cond_false]at h;cases hz:Nat.beq lo 0 with
     |false=>rw[hz]at h;cases h
     | true=>
       rw[hz]at h;cases h;have:=aOg hz;subst this;exact LV
theorem Jl{x:Operand}{n:Nat}(h:bG ρ x=some n):∃k,ev (Jo σ ρ) x=some (.int k (n:Int)):=by
 unfold bG at h;split at h
 ·rename_i k m hx;cases h;exact⟨k,evv hx⟩
 ·cases h
theorem qB{e:tI}{cs:List AV}{off:Nat}(h:gM P e cs off=some v)(w:wD):(part e (Dm σ cs).toArray off).run P w= .ok (val σ v) w:=by
 unfold gM at h;split at h
 · rename_i n hn
   cases hb:Nat.ble (off+n) cs.length with
   |false=>rw[hb]at h;cases h
   | true=>
     rw[hb]at h;cases h;obtain⟨d,h1,h2,h3⟩:=tL hn;have hagg:(isAgg e).run P w= .ok true w:=by
      unfold isAgg;rw[aPg,run_underlying h1 w];cases d<;>simp_all [TypeDesc.isRow]
     obtain⟨i,hi,hs⟩:=aOr.1 h3;have hz:(sizeOf e).run P w= .ok n w:=by simp[sizeOf,typeInfo,hi,hs]
     unfold part;simp only[aPg,hagg,aOy,if_true,hz,aPp,val,wP,sub];congr 1;simp[List.extract_eq_take_drop]
 · cases hb:bC P e with
   |false=>rw[hb]at h;cases h
   | true=>
     rw[hb]at h;simp only[aPo]at h;obtain⟨d,h1,h2,h3⟩:=kX hb;have hagg:(isAgg e).run P w= .ok false w:=by
      unfold isAgg;rw[aPg,run_underlying h1 w];cases d<;>simp_all [TypeDesc.isRow]
     have hx:(Dm σ cs)[off]?=some (val σ v):=by rw[Dy,aOf,h];rfl
     unfold part;simp[hagg,hx]
theorem qC{e:tI}{cs:List AV}{off:Nat}(h:gM P e cs off=some v)(hb:Ej k cs):bq k v:=by
 unfold gM at h;split at h
 · rename_i n hn
   cases hq:Nat.ble (off+n) cs.length with
   |false=>rw[hq]at h;cases h
   |true=>rw[hq]at h;cases h;simp only[bq];exact kZ hb
 · cases hq:bC P e with
   |false=>rw[hq]at h;cases h
   |true=>rw[hq]at h;exact tZ hb h
theorem Rs{v:AV}:(val σ v).cells=(Dm σ (Lf v)).toArray:=by
 cases v<;>first|(simp only[Lf,val,Dm,Value.cells];done)|rfl|(simp only[Lf,val,Dm];rfl)
theorem Zu{v:AV}(h:bq k v):Ej k (Lf v):=by
 cases v<;>simp only[Lf,Ej,bq,and_true]at h⊢ <;>exact h
theorem qD:∀(us:List vU) (cs:List vU) (off:Nat) (j:Nat),off+j+us.length≤cs.length→
    (us.zipIdx j).foldl (fun(a:Array vU) (p:vU×Nat)=>a.setIfInBounds (off+p.2) p.1) cs.toArray=(over cs (off+j) us).toArray
 |[],cs,off,j,_=>by simp[over]
 | u::us,cs,off,j,h=>by
   simp only[ag]at h;simp only[List.zipIdx_cons,aQw];rw[List.setIfInBounds_toArray,qD us (cs.set (off+j) u) off (j+1) (by rw[aNw];omega)];show(over (cs.set (off+j) u) (off+j+1) us).toArray=_;rw[dZ cs (off+j) u us om]
theorem lG{place:Nat→oP (Nat×Nat)}:∀{parts:List (Nat×AV)} {cs ds:List AV},bH place cs parts=some ds→Instr.fill place (Dm σ cs).toArray (parts.map fun p=>(p.1,val σ p.2))=some (Dm σ ds).toArray
 |[],cs,ds,h=>by simp only[bH,aOi]at h;subst h;rfl
 | (i, v)::r,cs,ds,h=>by
   unfold bH at h;split at h
   · rename_i off size hp
     cases hb:(Nat.beq (Lf v).length size&&Nat.ble (off+(Lf v).length) cs.length)with
     |false=>rw[hb]at h;cases h
     | true=>
       rw[hb]at h;simp only[aPo]at h;rw[aOc]at hb;have h1:=aOg hb.1;have h2:=aNt hb.2;have ih:=lG (place:=place) h;simp only[aOw];unfold Instr.fill;simp only[hp];have e1:(val σ v).cells.size=size:=by rw[Rs];simp[Iq,h1]
       have e2:¬(off+(val σ v).cells.size>(Dm σ cs).toArray.size):=by rw[e1];simp[Iq];omega
       rw[aNy (by rw[e1];simp[Iq];omega)];have e3:((val σ v).cells.zipIdx.foldl (fun cs (x:vU×Nat)=>cs.setIfInBounds (off+x.2) x.1) (Dm σ cs).toArray)=(Dm σ (gK cs off (Lf v))).toArray:=by
        rw[eP,Rs];have:=qD (Dm σ (Lf v)) (Dm σ cs) off 0 (by rw[Iq,Iq];omega);rw[aQv]at this;rw[←this];simp[←Array.foldl_toList]
       rw[←ih,←e3]
   ·cases h
theorem eU{place:Nat→oP (Nat×Nat)}:∀{parts:List (Nat×AV)} {cs ds:List AV},bH place cs parts=some ds→Ej k cs→(∀p∈parts,bq k p.2)→Ej k ds
 |[],cs,ds,h,hc,_=>by simp only[bH,aOi]at h;subst h;exact hc
 | (i, v)::r,cs,ds,h,hc,hp=>by
   unfold bH at h;split at h
   · rename_i off size _
     cases hb:(Nat.beq (Lf v).length size&&Nat.ble (off+(Lf v).length) cs.length)with
     |false=>rw[hb]at h;cases h
     | true=>
       rw[hb]at h;simp only[aPo]at h;exact eU h (eQ hc (Zu (hp _ (aNu ..)))) fun p hq=>hp p (aNs _ hq)
   ·cases h
theorem lH:∀{fs:List Field} {l:List (Nat×Nat)},bI P fs=some l→fs.mapM (fun f=>(P.info? f.type).map fun i=>(f.offset,i.size))=some l
 |[],l,h=>by simp only[bI,aOi]at h;subst h;rfl
 | f ::r,l,h=>by
   unfold bI at h;split at h
   · rename_i i l' h1 h2
     simp only[aOi]at h;subst h;simp[List.mapM_cons,h1,lH h2]
   ·cases h
theorem LW{t:tI}{parts:List (Nat×AV)}{cs:List AV}(h:lF P t parts=some cs):P.built t (parts.map fun p=>(p.1,val σ p.2))=some (Dm σ cs).toArray:=by
 unfold lF at h;unfold Program.built;split at h
 · rename_i zs fs hz hu
   have hz':=eO hz σ;replace hz':=hz'.h;obtain⟨it,h1,h2⟩:=aPs.1 hz';obtain⟨z,h3,h4⟩:=aOr.1 h2;split at h
   · rename_i pl hp
     simp only[h1,hu,h3,lH hp];have:=lG (σ:=σ) h;rw[←h4]at this;simpa using this
   ·cases h
 · rename_i zs n e hz hu
   have hz':=eO hz σ;replace hz':=hz'.h;obtain⟨it,h1,h2⟩:=aPs.1 hz';obtain⟨z,h3,h4⟩:=aOr.1 h2;split at h
   · rename_i ie hi
     simp only[h1,hu,h3,hi];have:=lG (σ:=σ) h;rw[←h4]at this;simpa using this
   ·cases h
 ·cases h
theorem DD{t:tI}{parts:List (Nat×AV)}{cs:List AV}(h:lF P t parts=some cs)(hp:∀p∈parts,bq k p.2):Ej k cs:=by
 unfold lF at h;split at h
 · rename_i hz _
   split at h
   ·exact eU h (Xa hz) hp
   ·cases h
 · rename_i hz _
   split at h
   ·exact eU h (Xa hz) hp
   ·cases h
 ·cases h
theorem eY:∀{ps:List (Nat×Operand)} {l:List (Nat×AV)},Us ρ ps=some l→evs (Jo σ ρ) (ps.map (·.2))=some ((l.map fun p=>(p.1,val σ p.2)).map (·.2))∧ps.map (·.1)=(l.map fun p=>(p.1,val σ p.2)).map (·.1)
 |[],l,h=>by simp only[Us,aOi]at h;subst h;exact⟨rfl,rfl⟩
 | (i,x)::r,l,h=>by
   unfold Us at h;split at h
   · rename_i v l' h1 h2
     simp only[aOi]at h;subst h;obtain⟨a,b⟩:=eY h2;simp only[aOw,evs,Ih (σ:=σ) h1,a,b,and_self]
   ·cases h
theorem Zv(hk:4096≤k)(hb:Qy k ρ):∀{ps:List (Nat×Operand)} {l:List (Nat×AV)},Us ρ ps=some l→∀p∈l,bq k p.2
 |[],l,h=>by simp only[Us,aOi]at h;subst h;simp
 | (i,x)::r,l,h=>by
   unfold Us at h;split at h
   · rename_i v l' h1 h2
     simp only[aOi]at h;subst h;intro p hp;rcases aNx.1 hp with rfl|hp
     ·exact Gr hk hb h1
     ·exact Zv hk hb h2 p hp
   ·cases h
end
section
variable{P:pG}{o:Oper}{ρ:Dn}{Γ:List Ad}{σ:Nat→Nat}{v:AV}{k:Nat}{x y z:Operand}{ρs:Bj}{t:tI}
theorem RF{n e size b off j:Nat}{k:IntKind}(ho:o.op= .indexAddr t x y)(ht:LF P t=some (n,e,size))(hx:ev ρs x=some (.pointer (some ⟨b,off,none⟩)))(hy:ev ρs y=some (.int k (j:Int)))(hj:j<n):Rd P o ρs Γ (.pointer (some ⟨b,off+j*size,none⟩)):=
 Cz ho (Ip.of (tN ht).1 (tN ht).2) hx hy hj
theorem Rd.slAt{i q l j:Nat}{c:AC}{s:SI}{k:IntKind}(ho:o.op= .indexAddr t x y)(ht:Ou P t=some s)(hx:ev ρs x=some (.slice (some ⟨bl σ i,q,none⟩) l (cp σ c)))(hy:ev ρs y=some (.int k (j:Int)))(hj:j<l):Rd P o ρs Γ (.pointer (some ⟨bl σ i,q+j*s.size,none⟩)):=by
 have:=Ey (P:=P) (Γ:=Γ) (A:=some ⟨bl σ i,q,none⟩) rfl ho hx hy (Jw ht σ) hj;simpa only[blk,ofs,Option.getD_some]using this
theorem LX{s:List Nat}{j b:Nat}{k:IntKind}(ho:o.op= .index t x y)(ht:P.underlying t=some .string)(hx:ev ρs x=some (.string (fT s)))(hy:ev ρs y=some (.int k (j:Int)))(hj:s[j]?=some b):Rd P o ρs Γ (.int .u8 (Int.ofNat (b%256))):=by
 have hlt:j<s.length:=(aNr.1 hj).1;have h:=gH (P:=P) (Γ:=Γ) ho ht hx hy (by rw[Am];exact hlt);have e:((fT s).data[j]'(by show j<(fT s).size;rw[Am];exact hlt)).toNat=b%256:=by
  unfold fT;have:=(aNr.1 hj).2;simp[this]
 rw[e]at h;exact h
theorem XN{n e size j:Nat}{k:IntKind}{cs:List AV}(ho:o.op= .index t x y)(ht:LF P t=some (n,e,size))(hx:ev ρs x=some (.agg (Dm σ cs).toArray))(hy:ev ρs y=some (.int k (j:Int)))(hj:j<n)(h:gM P e cs (j*size)=some v):Rd P o ρs Γ (val σ v):=fun a w ha _=>by
 obtain⟨h1,h2⟩:=tN ht;obtain⟨i,hi,hs⟩:=aOr.1 h2;have hz:(sizeOf e).run P w= .ok size w:=by simp[sizeOf,typeInfo,hi,hs]
 unfold execOp;have:((j:Int)<(n:Int)):=om;simp[ho,ha.eval hx,ha.eval hy,Instr.index,asIntOf,run_underlying h1,this,hz,qB h w];intro h9;omega
theorem DF{off e f:Nat}{cs:List AV}(ho:o.op= .field t x f)(ht:fieldV P t f=some (off,e))(hx:ev ρs x=some (.agg (Dm σ cs).toArray))(h:gM P e cs off=some v):Rd P o ρs Γ (val σ v):=fun a w ha _=>by
 unfold fieldV at ht;split at ht
 · rename_i fs hs
   split at ht
   · rename_i fd hf
     cases ht;unfold execOp;simp[ho,ha.eval hx,Instr.field,run_underlying hs,hf,asAgg,qB h w]
   ·cases ht
 ·cases ht
theorem Rd.strSl{s:List Nat}{lo hi:oP Operand}{a b:Nat}(ho:o.op= .slice t x lo hi none)(ht:P.underlying t=some .string)(hx:ev ρs x=some (.string (fT s)))
    (h1:match lo with|none=>a=0|some y=>∃k,ev ρs y=some (.int k (a:Int))) (h2:match hi with|none=>b=s.length|some y=>∃k,ev ρs y=some (.int k (b:Int))) (h3:a≤b) (h4:b≤s.length):Rd P o ρs Γ (.string (fT ((s.drop a).take (b-a)))):=fun ac w ha _=>by
 unfold execOp;rw[←Zg];cases lo with
 | none=>
   simp only at h1;subst h1;cases hi with
   |none=>simp only at h2;subst h2;simp[ho,ha.eval hx,Instr.sliceAt,run_underlying ht,Instr.slice,Instr.sliceBounds,Am];rw[Zg];simp
   | some y=>
     obtain⟨k,hy⟩:=h2;simp[ho,ha.eval hx,ha.eval hy,Instr.sliceAt,run_underlying ht,Instr.slice,Instr.sliceBounds,Instr.sliceBound,asIntOf,Am,h4]
 | some z=>
   obtain⟨k',hz⟩:=h1;cases hi with
   |none=>simp only at h2;subst h2;simp[ho,ha.eval hx,ha.eval hz,Instr.sliceAt,run_underlying ht,Instr.slice,Instr.sliceBounds,Instr.sliceBound,asIntOf,Am,h3]
   | some y=>
     obtain⟨k,hy⟩:=h2;simp[ho,ha.eval hx,ha.eval hy,ha.eval hz,Instr.sliceAt,run_underlying ht,Instr.slice,Instr.sliceBounds,Instr.sliceBound,asIntOf,Am,h4,h3]
theorem qE{e bytes size n cap b m:Nat}{zs:List vU}{A:OA}{k k':IntKind}(ho:o.op= .slice t x none (some y) (some z))(ht:Ce P t e size bytes zs)(hx:ev ρs x=some (.slice A n cap))(hy:ev ρs y=some (.int k (b:Int)))(hz:ev ρs z=some (.int k' (m:Int)))(h1:b≤m)(h2:m≤cap):Rd P o ρs Γ (.slice A b m):=fun a w ha _=>by
 obtain⟨i,zz,g1,g2,g3,_⟩:=ht.inf;unfold execOp;simp[ho,ha.eval hx,ha.eval hy,ha.eval hz,Instr.sliceAt,run_underlying ht.und,Instr.slice,Instr.sliceBounds,Instr.sliceBound,asIntOf,h1,h2,sizeOf,typeInfo,g1];intro _;cases A<;>simp[Addr.add]
theorem qF{s:SI}{i q l lo hi:Nat}{c:AC}(ht:Ou P t=some s)(h:eT s.size i q l c lo hi=some v)(R:vU→Prop)(hr:lo≤hi→hi≤cp σ c→R (.slice (Sep.slAt (some ⟨bl σ i,q,none⟩) (cp σ c) lo s.size) (hi-lo) (cp σ c-lo))):R (val σ v):=by
 unfold eT at h;cases hb:(Nat.ble lo hi&&Nat.ble hi (Oe c))with
 |false=>rw[hb]at h;cases h
 | true=>
   rw[hb]at h;simp only[aPo]at h;rw[aOc]at hb;have h1:=aNt hb.1;have h2:=aNt hb.2;have h3:=Tv (σ:=σ) (c:=c);split at h
   · rename_i q' hq
     cases h;have:=hr h1 om;rw[XM hq]at this;rw[wW,RD om];exact this
   ·cases h
theorem lI{s i q l lo hi:Nat}{c:AC}(h:eT s i q l c lo hi=some v)(h1:i<k)(h2:CX k c):bq k v:=by
 unfold eT at h;cases hb:(Nat.ble lo hi&&Nat.ble hi (Oe c))with
 |false=>rw[hb]at h;cases h
 | true=>
   rw[hb]at h;simp only[aPo]at h;split at h
   ·cases h;exact wX h1 (LQ h2)
   ·cases h
theorem run_sliceData{ts:Array tI}{ty:tI}{a:Addr}{l c:Nat}(h:c≠0){w:wD}:(Builtin.unsafeSliceData_ ts ty #[.slice (some a) l c]).run P w= .ok (.pointer (some a)) w:=by
 have e:Builtin.unsafeSliceData_ ts ty #[.slice (some a) l c]=(if c≠0 then pure (.pointer (some a))else(do if(←viewAt a.block).isSome then pure (.pointer (some a))else pure (.pointer (some ⟨←newObj (.view a (←elemOf ty)),0,none⟩)))):=rfl;rw[e,aOn h];rfl
theorem DI{i q l:Nat}{c:AC}{u:AV}(hx:aev ρ x=some u)(h:slv u=some (i,q,l,c)):ev (Jo σ ρ) x=some (.slice (some ⟨bl σ i,q,none⟩) l (cp σ c)):=by rw[Ih (σ:=σ) hx,Yk h]
theorem XO(h:DC P ρ o.op=some v):Rd P o (Jo σ ρ) Γ (val σ v):=by
 generalize ho:o.op=op at h;unfold DC at h;split at h
 -- fieldAddr
 · split at h
   · rename_i i q hx
     split at h
     ·rename_i k hf;cases h;simp only[val];exact Rd.field ho (evv hx) (LG hf)
     ·cases h
   ·cases h
 -- indexAddr
 · split at h
   · rename_i i q j hx hy
     obtain⟨k,hy⟩:=Jl (σ:=σ) hy;split at h
     · rename_i n e size ha
       cases hb:Nat.blt j n with
       |false=>rw[hb]at h;cases h
       |true=>rw[hb]at h;cases h;simp only[val];exact RF ho ha (evv hx) hy (aNt hb)
     ·cases h
   · rename_i u j _ hx hy
     obtain⟨k,hy⟩:=Jl (σ:=σ) hy;split at h
     · rename_i i q l c s hs ht
       cases hb:Nat.blt j l with
       |false=>rw[hb]at h;cases h
       |true=>rw[hb]at h;cases h;simp only[val];exact Rd.slAt ho ht (DI hx hs) hy (aNt hb)
     ·cases h
   ·cases h
 -- index
 · split at h
   · rename_i s j hx hy
     obtain⟨k,hy⟩:=Jl (σ:=σ) hy;cases hb:Qv P _ with
     |false=>rw[hb]at h;cases h
     | true=>
       rw[hb]at h;simp only[aPo]at h;split at h
       ·rename_i b hj;cases h;simp only[val];exact LX ho (Qg hb) (evv hx) hy hj
       ·cases h
   · rename_i cs j hx hy
     obtain⟨k,hy⟩:=Jl (σ:=σ) hy;split at h
     · rename_i n e size ha
       cases hb:Nat.blt j n with
       |false=>rw[hb]at h;cases h
       |true=>rw[hb]at h;exact XN ho ha (evv hx) hy (aNt hb) h
     ·cases h
   ·cases h
 -- field
 · split at h
   ·rename_i cs off e hx hf;exact DF ho hf (evv hx) h
   ·cases h
 -- build
 · split at h
   · rename_i l hl
     obtain⟨cs,hb,rfl⟩:=aOr.1 h;obtain⟨h1,h2⟩:=eY (σ:=σ) hl;simp only[val];exact Rd.build (by rw[ho]) h1 h2 (LW hb)
   ·cases h
 -- makeFunc
 · split at h
   · rename_i us vs hx hy
     cases h;simp only[val];exact Rd.makeFunc (by rw[ho]) (aY hx) (aY hy)
   ·cases h
 -- slice
 · split at h
   · split at h
     · rename_i s hx
       cases hb:Qv P _ with
       |false=>rw[hb]at h;cases h
       | true=>
         rw[hb]at h;simp only[aPo]at h;split at h
         · rename_i a b ha hbb
           cases hq:(Nat.ble a b&&Nat.ble b s.length)with
           |false=>rw[hq]at h;cases h
           | true=>
             rw[hq]at h;cases h;rw[aOc]at hq;simp only[val];refine Rd.strSl ho (Qg hb) (evv hx) ?_ ?_ (aNt hq.1) (aNt hq.2)
             · split at ha
               ·cases ha;rfl
               ·exact Jl ha
             · split at hbb
               ·cases hbb;rfl
               ·exact Jl hbb
         ·cases h
     · rename_i u _ hx
       split at h
       · rename_i i q l c s hs ht
         have hxv:=DI (σ:=σ) hx hs;have hti:=Jw ht σ;split at h
         · cases h
           rw[Yk hs];exact wH ho hti hxv
         · split at h
           · rename_i b hn
             obtain⟨k,hy⟩:=Jl (σ:=σ) hn;cases hb:Nat.ble b (Oe c)with
             |false=>rw[hb]at h;cases h
             | true=>
               rw[hb]at h;cases h;have:=aNt hb;have h3:=Tv (σ:=σ) (c:=c);rw[wW];exact Gi ho hti hxv hy om
           ·cases h
         · split at h
           · rename_i a hn
             obtain⟨k,hy⟩:=Jl (σ:=σ) hn;cases hb:Nat.ble l (Oe c)with
             |false=>rw[hb]at h;cases h
             | true=>
               rw[hb]at h;simp only[aPo]at h;exact qF ht h (fun r=>Rd P o (Jo σ ρ) Γ r) fun h1 _=>Rl ho hti hxv hy h1
           ·cases h
         · split at h
           · rename_i a b hn hm
             obtain⟨k,hy⟩:=Jl (σ:=σ) hn;obtain⟨k',hz⟩:=Jl (σ:=σ) hm;exact qF ht h (fun r=>Rd P o (Jo σ ρ) Γ r) fun h1 h2=>CB ho hti hxv hy hz h1 h2
           ·cases h
       ·cases h
     ·cases h
   · split at h
     · split at h
       · rename_i hx hy hz
         obtain⟨k,hy⟩:=Jl (σ:=σ) hy;obtain⟨k',hz⟩:=Jl (σ:=σ) hz;cases hb:(Ou P _).isSome with
         |false=>rw[hb]at h;cases h
         | true=>
           rw[hb]at h;cases h;obtain⟨s,hs⟩:=aQi.1 hb;simp only[val];exact qE ho (Jw hs σ) (evv hx) hy hz (aOd _) (aOd _)
       · rename_i u b m _ hx hy hz
         obtain⟨k,hy⟩:=Jl (σ:=σ) hy;obtain⟨k',hz⟩:=Jl (σ:=σ) hz;split at h
         · rename_i i q l c s hs ht
           cases hb:(Nat.ble b m&&Nat.ble m (Oe c))with
           |false=>rw[hb]at h;cases h
           | true=>
             rw[hb]at h;cases h;rw[aOc]at hb;have h3:=Tv (σ:=σ) (c:=c);have h4:=aNt hb.2;simp only[val];exact qE ho (Jw ht σ) (DI hx hs) hy hz (aNt hb.1) om
         ·cases h
       ·cases h
     ·cases h
 -- call
 · rename_i c
   obtain⟨cl,as,ts⟩:=c;simp only at h;split at h
   · rename_i x t h1 h2
     have e1:as=#[x]:=by rw[←Array.toList_inj];exact h1
     have e2:ts=#[t]:=by rw[←Array.toList_inj];exact h2
     subst e1 e2;split at h
     · rename_i u hx
       split at h
       · rename_i i q l c hs
         cases hb:tV P _ with
         |false=>rw[hb]at h;cases h
         | true=>
           rw[hb]at h;cases h;obtain⟨e,he⟩:=IB hb;simp only[val];exact Rd.len ho (DI hx hs) he
       · split at h
         · rename_i s _
           cases hb:Qv P _ with
           |false=>rw[hb]at h;cases h
           | true=>
             rw[hb]at h;cases h;simp only[val];have hx':=evv (σ:=σ) (u:= .string (fT s)) hx;exact fun a w ha _=>by unfold execOp;simp[ho,resolve,invoke,builtin,ha.eval hx',Builtin.len_,run_underlying (Qg hb),goInt,Am]
         ·cases h
     ·cases h
   · rename_i x t h1 h2
     have e1:as=#[x]:=by rw[←Array.toList_inj];exact h1
     subst e1;split at h
     · rename_i u hx
       split at h
       · rename_i i q l c hs
         cases hb:Nat.blt 0 (Oe c)with
         |false=>rw[hb]at h;cases h
         | true=>
           rw[hb]at h;cases h;have h3:=Tv (σ:=σ) (c:=c);have h4:cp σ c≠0:=by have:=aNt hb;omega
           have hx':=DI (σ:=σ) hx hs;simp only[val];exact fun a w ha _=>by unfold execOp;simp[ho,resolve,invoke,builtin,ha.eval hx',run_sliceData h4]
       ·cases h
     ·cases h
   ·cases h
 ·cases h
theorem RG{op:Op}(hk:4096≤k)(hb:Qy k ρ)(h:DC P ρ op=some v):bq k v:=by
 unfold DC at h;split at h
 · split at h
   · rename_i i q hx
     have h2:=Gr hk hb hx;split at h
     ·cases h;simp only[bq]at h2⊢;exact h2
     ·cases h
   ·cases h
 · split at h
   · rename_i i q j hx hy
     have h2:=Gr hk hb hx;split at h
     ·exact Na h (by simp only[bq]at h2⊢;exact h2)
     ·cases h
   · rename_i u j _ hx hy
     have h2:=Gr hk hb hx;split at h
     · rename_i hs _
       exact Na h (by simp only[bq];exact(iV hs h2).1)
     ·cases h
   ·cases h
 · split at h
   · cases hb:Qv P _ with
     |false=>rw[hb]at h;cases h
     | true=>
       rw[hb]at h;simp only[aPo]at h;split at h
       ·cases h;simp[bq]
       ·cases h
   · rename_i cs j hx hy
     have h2:=Gr hk hb hx;simp only[bq]at h2;split at h
     · rename_i n e size ha
       cases hb:Nat.blt j n with
       |false=>rw[hb]at h;cases h
       |true=>rw[hb]at h;exact qC h h2
     ·cases h
   ·cases h
 · split at h
   · rename_i cs off e hx hf
     have h2:=Gr hk hb hx;simp only[bq]at h2;exact qC h h2
   ·cases h
 · split at h
   · rename_i l hl
     obtain⟨cs,hc,rfl⟩:=aOr.1 h;simp only[bq];exact DD hc (Zv hk hb hl)
   ·cases h
 · split at h
   · rename_i us vs hx hy
     cases h;simp only[bq];exact⟨bB hk hb hx,bB hk hb hy⟩
   ·cases h
 · split at h
   · split at h
     · cases hb:Qv P _ with
       |false=>rw[hb]at h;cases h
       | true=>
         rw[hb]at h;simp only[aPo]at h;split at h
         ·exact Na h (by simp only[bq])
         ·cases h
     · rename_i u _ hx
       have h2:=Gr hk hb hx;split at h
       · rename_i i q l c s hs ht
         have h3:=iV hs h2;split at h
         ·cases h;exact h2
         · split at h
           ·exact Na h (wX h3.1 h3.2)
           ·cases h
         · split at h
           · rename_i a hn
             cases hb:Nat.ble l (Oe c)with
             |false=>rw[hb]at h;cases h
             |true=>rw[hb]at h;exact lI (l:=l) h h3.1 h3.2
           ·cases h
         · split at h
           ·exact lI (l:=l) h h3.1 h3.2
           ·cases h
       ·cases h
     ·cases h
   · split at h
     · split at h
       ·exact Na h (by simp only[bq])
       · rename_i u b m _ hx hy hz
         have h2:=Gr hk hb hx;split at h
         · rename_i i q l c s hs ht
           exact Na h (by simp only[bq];exact(iV hs h2).1)
         ·cases h
       ·cases h
     ·cases h
 · split at h
   · split at h
     · split at h
       ·exact Na h (by simp only[bq])
       · split at h
         ·exact Na h (by simp only[bq])
         ·cases h
     ·cases h
   · split at h
     · rename_i u hx
       have h2:=Gr hk hb hx;split at h
       · rename_i i q l c hs
         exact Na h (by simp only[bq];exact(iV hs h2).1)
       ·cases h
     ·cases h
   ·cases h
 ·cases h
end
inductive Res where
 |val (v:AV)
 |up (M:List MC)
 |mk (v:AV) (N:List MC) (k:Nat)
 |ge (v:AV) (M:List MC) (k:Nat)
def Sup(k:Nat)(σ σ':Nat→Nat):Prop:=∀i,i<k→σ i=σ' i
def iK(k:Nat)(σ:Nat→Nat)(v:AV)(M:List MC)(u:vU)(Γ:List Ad):Prop:=∃σ',Sup k σ σ'∧u=val σ' v∧Γ=mem σ' M
def Zh(P:pG)(o:Oper)(ρ:Dn)(M:List MC)(k:Nat):Res→Prop
 | .val v=>bq k v∧∀σ,Rd P o (Jo σ ρ) (mem σ M) (val σ v)
 | .up M'=>Le k M'∧∀σ,Up P o (Jo σ ρ) (mem σ M) (mem σ M')
 | .mk v N k'=>k≤k'∧bq k' v∧Le k' N∧∀σ,Mk P o (Jo σ ρ) (mem σ M) (iK k σ v N)
 | .ge v M' k'=>k≤k'∧bq k' v∧Le k' M'∧∀σ,Ge P o (Jo σ ρ) (mem σ M) (iK k σ v M')
def lJ (P:pG)(ρ:Dn)(M:List MC):Op→oP AV
 | .load ty x=>match aev ρ x with
   | some (.ptr i o)=>match find M i with
     | some (_,c)=>match Pi c with
       | some cs=>match QS P ty with
         |some n=>bif Nat.ble (o+n) cs.length then some (.agg (iJ cs o n))else none
         |none=>bif bC P ty then cs[o]? else none
       |none=>none
     |none=>none
   |_=>none
 | .convert s d x=>match aev ρ x with
   | some (.ptr i q)=>match find M i with
     | some (_,c)=>match c.kd with
       | .box e=>match P.underlying s,P.underlying d with
         | some (.pointer t),some .unsafePointer=>match P.info? t with
           |some j=>bif !Nat.beq j.size 0&&Nat.blt q c.cs.length then some (.ptr i q)else none
           |none=>none
         |some .unsafePointer,some (.pointer t)=>bif (P.info? t).isSome&&liesAt P P.depth e (c.cs.length/P.cellsOf e) q t 1 then some (.ptr i q)else none
         |_,_=>none
       |_=>none
     |none=>none
   |_=>none
 | .call c=>match c.callee,c.args.toList,c.argTypes.toList with
   | .builtin .len,[x],[t]=>match aev ρ x with
     | some (.mp i)=>match find M i,P.underlying t with
       | some (_,c),some (.map _ _)=>match c.kd with
         | .maps m=>some (.int .i64 (Int.ofNat m.length))
         |_=>none
       |_,_=>none
     |_=>none
   |_,_,_=>none
 |_=>none
def lK:List (List Nat×AV)→List Nat→AV→List (List Nat×AV)
 |[],x,v=>[(x,v)]
 |(y,u)::r,x,v=>bif bD x y then(x,v)::r else(y,u)::lK r x v
def upA (P :pG)(ρ:Dn)(M:List MC):Op→oP (List MC)
 | .store ty x y=>match aev ρ x,aev ρ y with
   | some (.ptr i o),some v=>match find M i with
     | some (j,c)=>match QS P ty with
       | some n=>match v with
         | .agg us=>bif Nat.beq us.length n&&us.all one then(match LJ c o us with
           |some c'=>some (M.set j c')
           |none=>none)else none
         |_=>none
       |none=>bif bC P ty&&one v then(match LJ c o [v]with
           |some c'=>some (M.set j c')
           |none=>none)else none
     |none=>none
   |_,_=>none
 | .mapUpdate t x y z=>match aev ρ x,aev ρ y,aev ρ z with
   | some (.mp i),some (.str s),some v=>match find M i,P.underlying t with
     | some (j,c),some (.map K _)=>match c.kd with
       | .maps m=>bif Qv P K then some (M.set j ⟨c.i, .maps (lK m s v),c.cs⟩)else none
       |_=>none
     |_,_=>none
   |_,_,_=>none
 |_=>none
section
variable{P:pG}{o:Oper}{ρ:Dn}{M M':List MC}{σ:Nat→Nat}{v:AV}{k:Nat}
theorem Zw{c:MC}{cs:List AV}(h:Pi c=some cs)(hc:Zf k c):Ej k cs:=by
 obtain⟨i,kd,cs'⟩:=c;unfold Pi at h;cases kd<;>first|(cases h;done)|(cases h;exact hc.cs)
theorem aIq{cs:List AV}{q:Nat}{u:AV}(h:cs[q]?=some u):iJ cs q 1=[u]:=by
 have hlt:q<cs.length:=(aNr.1 h).1;unfold iJ;rw[aPy hlt,(aNr.1 h).2];rfl
theorem Xd(hk:4096≤k)(hb:Qy k ρ)(hM:Le k M)(h:lJ P ρ M o.op=some v):Zh P o ρ M k (.val v):=by
 generalize ho:o.op=op at h;unfold lJ at h;split at h
 · rename_i ty x
   split at h
   · rename_i i q hx
     split at h
     · rename_i j c hf
       split at h
       · rename_i cs hc
         have hbc:=Zw hc (hM c (Qf hf));have hi:=(Kk hf).2;split at h
         · rename_i n hr
           cases hq:Nat.ble (q+n) cs.length with
           |false=>rw[hq]at h;cases h
           | true=>
             rw[hq]at h;cases h;refine⟨by simp only[bq];exact kZ hbc,fun σ=>?_⟩;have hx':=evv (σ:=σ) hx;rw[←hi]at hx';have:=Qc ho hx' (tL hr) (Qo (σ:=σ) hf) (kY hc q n) (by rw[Iq,QU hq]);simpa only[val]using this
         · cases hcl:bC P ty with
           |false=>rw[hcl]at h;cases h
           | true=>
             rw[hcl]at h;simp only[aPo]at h;refine⟨tZ hbc h,fun σ=>?_⟩;have hx':=evv (σ:=σ) hx;rw[←hi]at hx';have hg:=kY (σ:=σ) hc q 1;rw[aIq h]at hg;exact Cq ho hx' (kX hcl) (Qo (σ:=σ) hf) hg
       ·cases h
     ·cases h
   ·cases h
 · rename_i s d x
   split at h
   · rename_i i q hx
     have hbx:=Gr hk hb hx;split at h
     · rename_i j c hf
       have hi:=(Kk hf).2;split at h
       · rename_i e hc
         have hsh:∀σ w,oks (mem σ M) w→w.shape? (bl σ i)=some (e,c.cs.length):=fun σ w hw=>by
          have h1:=hw _ (sN (Qo (σ:=σ) hf));unfold ck at h1;rw[hc]at h1;have h2:w.heap[bl σ c.i]?=some (.cells (Dm σ c.cs).toArray e (0,0)):=h1;rw[hi]at h2;simp[World.shape?,h2,Iq]
         split at h
         · rename_i t hs hd
           split at h
           · rename_i jt hj
             cases hq:(!Nat.beq jt.size 0&&Nat.blt q c.cs.length)with
             |false=>rw[hq]at h;cases h
             | true=>
               rw[hq]at h;cases h;rw[aOc]at hq;refine⟨hbx,fun σ=>fun a w ha hw=>?_⟩;have hx':=evv (σ:=σ) hx;have h0:jt.size≠0:=fun e=>by rw[e]at hq;simp at hq
               unfold execOp;simp only[ho,ha.eval hx',aPg,Lib.run_to_unsafe w ⟨bl σ i,q,none⟩ hs hd hj h0 (hsh σ w hw) (aNt hq.2),aOy,aPp,val]
           ·cases h
         · rename_i t hs hd
           cases hq:((P.info? t).isSome&&liesAt P P.depth e (c.cs.length/P.cellsOf e) q t 1)with
           |false=>rw[hq]at h;cases h
           | true=>
             rw[hq]at h;cases h;rw[aOc]at hq;obtain⟨jt,hj⟩:=aQi.1 hq.1;refine⟨hbx,fun σ=>fun a w ha hw=>?_⟩;have hx':=evv (σ:=σ) hx;unfold execOp;simp only[ho,ha.eval hx',aPg,Lib.run_from_unsafe w ⟨bl σ i,q,none⟩ hs hd hj (hsh σ w hw) hq.2,aOy,aPp,val]
         ·cases h
       ·cases h
     ·cases h
   ·cases h
 · rename_i c
   obtain⟨cl,as,ts⟩:=c;simp only at h;split at h
   · rename_i x t h1 h2
     have e1:as=#[x]:=by rw[←Array.toList_inj];exact h1
     have e2:ts=#[t]:=by rw[←Array.toList_inj];exact h2
     subst e1 e2;split at h
     · rename_i i hx
       split at h
       · rename_i j c K E hf hu
         have hi:=(Kk hf).2;split at h
         · rename_i m hc
           cases h;refine⟨by simp only[bq],fun σ=>fun a w ha hw=>?_⟩;have hx':=evv (σ:=σ) hx;have h1:=hw _ (sN (Qo (σ:=σ) hf));unfold ck at h1;rw[hc]at h1;obtain⟨es,clock,h3,h4⟩:=h1;rw[hi]at h3;have h5:es.size=m.length:=by
            have:=aOa List.length h4;simpa[entries,Jp,prs]using this
           unfold execOp;simp[ho,resolve,invoke,builtin,ha.eval hx',Builtin.len_,run_underlying hu,getObj,Sem.run,h3,goInt,h5,val]
         ·cases h
       ·cases h
     ·cases h
   ·cases h
 ·cases h
theorem bytes_beq(a b:yB):(a==b)=decide (a=b):=by
 obtain⟨x⟩:=a;obtain⟨y⟩:=b;show(x==y)=_;rw[Bool.eq_iff_iff,beq_iff_eq,aPf];constructor
 ·intro h;rw[h]
 ·intro h;exact aOa ByteArray.data h
theorem kL.str{K:tI}(h:P.underlying K=some .string):kL P K (fun b:yB=> .string b) where
 same a b w:=by
  show(Op.equalIn (9999+1) K (.string a) (.string b)).run P w=_;rw[run_equalIn_string (w:=w) 9999 K a b h];congr 1;rw[ByteArray.toList_eq,ByteArray.toList_eq,Bool.eq_iff_iff,beq_iff_eq,aPf];constructor
  ·intro h;exact ByteArray.ext (Array.toList_inj.1 h)
  ·intro h;rw[h]
 now d hd:=by
  rw[h]at hd;obtain rfl:=aOj hd;refine .inr fun a b=>?_;simp only[Instr.sameNow];congr 1;rw[bytes_beq]
 und:=⟨_,h⟩
 check e a w:=by
  show(Instr.checkKey e (9999+1) K (.string a)).run P w=_;unfold Instr.checkKey;simp[run_underlying h]
 bits a:=by show Instr.sameBits 10000 (.string a) (.string a)=true;simp[Instr.sameBits,bytes_beq]
theorem Qh{a b:List Nat}:fT a=fT b↔bD a b=true:=by
 rw[←bF,beq_iff_eq,←Qz,←Qz];constructor
 ·intro h;rw[h]
 · intro h
   rw[ByteArray.toList_eq,ByteArray.toList_eq]at h;exact ByteArray.ext (Array.toList_inj.1 h)
theorem LY{m:List (List Nat×AV)}{x:List Nat}:prs σ (lK m x v)=We (prs σ m) (fT x) (val σ v):=by
 induction m with
 |nil=>rfl
 | cons p r ih=>
   obtain⟨y,u⟩:=p;unfold lK;show _=We ((fT y,val σ u)::prs σ r) (fT x) (val σ v);cases he:bD x y with
   | true=>
     have:=Qh.2 he;simp[prs,We,this]
   | false=>
     have:fT x≠fT y:=fun e=>by rw[Qh.1 e]at he;cases he
     simp only[cond_false,We,aNy this,←ih];rfl
theorem LZ{m:List (List Nat×AV)}{x:List Nat}(h:∀p∈m,bq k p.2)(hv:bq k v):∀p∈lK m x v,bq k p.2:=by
 induction m with
 |nil=>intro p hp;rw[aNz.1 hp];exact hv
 | cons q r ih=>
   obtain⟨y,u⟩:=q;intro p hp;unfold lK at hp;cases he:bD x y with
   | true=>
     rw[he]at hp;rcases aNx.1 hp with rfl|hp
     ·exact hv
     ·exact h p (aNs _ hp)
   | false=>
     rw[he]at hp;rcases aNx.1 hp with rfl|hp
     ·exact h _ (aNu ..)
     ·exact ih (fun p hp=>h p (aNs _ hp)) p hp
theorem IE{us:List AV}(h:us.all one=true):(Dm σ us).all (·.oneCell')=true:=by
 rw[Dy,List.all_map,aPt];intro z hz;exact tK σ (aPt.1 h z hz)
theorem aEt (hk:4096≤k)(hb:Qy k ρ)(hM:Le k M)(h:upA P ρ M o.op=some M'):Zh P o ρ M k (.up M'):=by
 generalize ho:o.op=op at h;unfold upA at h;split at h
 · rename_i ty x y
   split at h
   · rename_i i q v hx hy
     have hv:=Gr hk hb hy;split at h
     · rename_i j c hf
       have hi:=(Kk hf).2;have hc:=hM c (Qf hf);split at h
       · rename_i n hr
         split at h
         · rename_i us
           cases hq:(Nat.beq us.length n&&us.all one)with
           |false=>rw[hq]at h;cases h
           | true=>
             rw[hq]at h;simp only[aPo]at h;rw[aOc]at hq;split at h
             · rename_i c' hp
               cases h;simp only[bq]at hv;obtain⟨g1,g2⟩:=wQ hp hc hv;refine⟨Xb hM g1,fun σ=>?_⟩;have hx':=evv (σ:=σ) hx;have hy':=evv (σ:=σ) hy;rw[←hi]at hx';rw[iU];exact Cf ho hx' hy' (tL hr) (by rw[Iq];exact aOg hq.1) (IE hq.2) (Qo hf) (HY hp)
             ·cases h
         ·cases h
       · cases hq:(bC P ty&&one v)with
         |false=>rw[hq]at h;cases h
         | true=>
           rw[hq]at h;simp only[aPo]at h;rw[aOc]at hq;split at h
           · rename_i c' hp
             cases h;obtain⟨g1,g2⟩:=wQ hp hc (by simp only[Ej];exact⟨hv,trivial⟩);refine⟨Xb hM g1,fun σ=>?_⟩;have hx':=evv (σ:=σ) hx;have hy':=Ih (σ:=σ) hy;rw[←hi]at hx';rw[iU];exact cu ho hx' hy' (kX hq.1) (tK σ hq.2) (Qo hf) (HY hp)
           ·cases h
     ·cases h
   ·cases h
 · rename_i t x y z
   split at h
   · rename_i i s v hx hy hz
     have hv:=Gr hk hb hz;split at h
     · rename_i j c K E hf hu
       have hi:=(Kk hf).2;have hc:=hM c (Qf hf);split at h
       · rename_i m hkd
         cases hq:Qv P K with
         |false=>rw[hq]at h;cases h
         | true=>
           rw[hq]at h;cases h;have hm:=hc.kd;rw[hkd]at hm;refine⟨Xb hM ⟨hc.pl,LZ hm hv,hc.cs⟩,fun σ=>?_⟩;have hx':=evv (σ:=σ) hx;have hy':=evv (σ:=σ) hy;have hz':=Ih (σ:=σ) hz;rw[←hi]at hx';have hg:=Qo (σ:=σ) hf;have e1:ck σ c=Za (fun b:yB=> .string b) (fun v:vU=>v) (bl σ c.i) (prs σ m):=by unfold ck;rw[hkd]
           have e2:ck σ ⟨c.i, .maps (lK m s v),c.cs⟩=Za (fun b:yB=> .string b) (fun v:vU=>v) (bl σ c.i) (We (prs σ m) (fT s) (val σ v)):=by unfold ck;simp only[LY]
           rw[e1]at hg;rw[iU,e2];exact Up.mapUpdate (kL.str (Qg hq)) ho hu hx' hy' hz' hg
       ·cases h
     ·cases h
   ·cases h
 ·cases h
end
end Go.In

/- Own text. -/
import Derived.Test.YtihgdnjkofpgiaaGreatDoorAa
import Derived.Lib.AppendStr
import Derived.Lib.UnsafeStr
set_option linter.unusedVariables false
set_option linter.unusedSimpArgs false
namespace Go.In
open Go.RowKit Go.Flow Go.Mem Go.Sep
def EM(P:pG)(t:tI):oP Nat:=
 match P.underlying t with
 | some (.slice e)=>match P.info? e with
   | some i=>match i.zero with
     |some (.int .u8 0)=>bif Nat.beq i.size 1&&Nat.beq i.bytes 1 then some e else none
     |_=>none
   |none=>none
 |_=>none
structure ByteSl(P:pG)(t e:tI):Prop where
 und:P.underlying t=some (.slice e)
 inf:∃i,P.info? e=some i∧i.zero=some (.int .u8 0)∧i.size=1∧i.bytes=1
theorem byteSl_ok{P:pG}{t:tI}{e:Nat}(h:EM P t=some e):ByteSl P t e:=by
 unfold EM at h;split at h
 · rename_i e' hu
   split at h
   · rename_i i hi
     split at h
     · rename_i hz
       cases hb:(Nat.beq i.size 1&&Nat.beq i.bytes 1)with
       |false=>rw[hb]at h;cases h
       | true=>
         rw[hb]at h;cases h;rw[aPk]at hb;exact⟨hu,i,hi,hz,aPp hb.1,aPp hb.2⟩
     ·cases h
   ·cases h
 ·cases h
section
variable{P:pG}{o:Oper}{ρ:Bo}{Γ:List Ad}{x y:Operand}{t u e:tI}
theorem Yb{w:wD}{ty:tI}(ht:ByteSl P t e)(hu:P.underlying u=some .string){v:vU}{n:Nat}{xs:List vU}(hown:w.ownsRow 0 e 1 v n xs)(s:yB)
    (hbytes:n+s.size≤140737488355328):
    ∃v' w',(Builtin.append_ #[t,u] ty #[v, .string s]).run P w= .ok v' w'∧w'.ownsRow 0 e 1 v' (n+s.size) (xs++Lib.strCells s)∧Gi (fun g=>v.ownBlock=some g) w w'∧
     ∀g,v'.ownBlock=some g→v.ownBlock=some g∨w.heap.size≤g:=by
 obtain⟨i,h2,h3,h4,h5⟩:=ht.inf;have h63:n+s.size≤maxLen:=by simp only[maxLen];omega
 have hk:∀w',w.grownBy w' v.ownBlock→w.drawn≤w'.drawn→Gi (fun g=>v.ownBlock=some g) w w':=fun w' h hd=>(Pb h hd).mono fun _ _ h=>h.symm;obtain⟨v',w',hr,g1,g2,_⟩:=Lib.run_append_own_string (P:=P) w 0 t u ty e i ht.und hu h2 h3 h4 h5 v n xs hown s h63 hbytes (aQb _);refine⟨v',w',hr,g1,hk w' g2 (run_drawn _ _ _ _ hr),fun g hg=>?_⟩;rcases hown.2 with⟨rfl,rfl⟩|⟨g0,cap,cur,rfl,hbg,hgg,hnc,hcm,hcs,htake⟩
 · have hxl:xs=[]:=aRu (by simpa using hown.1)
   subst hxl;obtain⟨v2,w2,hr2,q1,_,_⟩:=Lib.run_append_own_string (P:=P) w w.heap.size t u ty e i ht.und hu h2 h3 h4 h5 (.slice none 0 0) 0 [] (World.ownsRow_nil w _ e 1) s h63 hbytes (aPl _);rw[hr]at hr2;cases hr2;rcases q1.2 with⟨hv,_⟩|⟨g2,_,_,hv,hb,_⟩
   ·rw[hv]at hg;cases hg
   ·rw[hv]at hg;simp[Value.ownBlock]at hg;subst hg;exact .inr hb
 · by_cases hroom:n+s.size≤cap
   · have hcs':cur.size=cap:=by simpa using hcs
     have hr2:=Lib.run_append_room_string (P:=P) w t u ty e i ht.und hu h2 h4 g0 n cap cur hgg s hroom om;rw[hr]at hr2;cases hr2;exact .inl hg
   · have holds:∀j u,xs[j]?=some u→w.cell? ((⟨g0,0,none⟩:Addr).add j)=some u:=hown.cells (g:=g0) rfl
     have hr2:=Lib.run_append_grow_string (P:=P) w t u ty e i (.int .u8 0) ht.und hu h2 h3 ⟨g0,0,none⟩ n cap xs (by rw[h4];simpa using hown.1) holds s om om (by rw[h5];exact growslice_fits om om);rw[hr]at hr2;cases hr2;simp[Value.ownBlock]at hg;exact .inr om
theorem yA{w:wD}{A:OA}{n cap:Nat}{g:Nat}(h:g∈Ik A):(Value.slice A n cap).ownBlock=some g:=by
 obtain⟨ad,rfl,rfl⟩:=Pf.1 h;rfl
theorem Ge.appendStr{A:OA}{n cap i:Nat}{xs:List vU}{s:yB}(ho:o.op= .call {callee:= .builtin .append,args:=#[x,y],argTypes:=#[t,u]})(ht:ByteSl P t e)(hu:P.underlying u=some .string)
    (hx:ev ρ x=some (.slice A n cap)) (hy:ev ρ y=some (.string s)) (hi:Γ[i]?=some (row e 1 A n cap xs)) (hby:n+s.size≤140737488355328):
    Ge P o ρ Γ (fun v Γ'=>∃A' cap',v= .slice A' (n+s.size) cap'∧Γ'=Γ.set i (row e 1 A' (n+s.size) cap' (xs++Lib.strCells s))):=fun a w ha hs=>by
 have hrow:w.ownsRow 0 e 1 (.slice A n cap) n xs:=hs.each _ (av hi);obtain⟨v',w',hrun,h7,h8,h9⟩:=Yb (ty:=o.type) ht hu hrow s hby
 obtain⟨A',cap',rfl,_⟩:=Il h7;refine⟨_,_,w',?_,⟨A',cap',rfl,rfl⟩,Dk.set hi hs ⟨⟨fun c hc=>by rw[aPj.1 hc];exact h7,?_,by simp[reads,row]⟩,?_,?_,by simp[reads,row]⟩⟩
 · unfold execOp
   simp only[ho,resolve,invoke,builtin,aQm,aQv,aQf,List.map_toArray,aQd,aQz,ha.eval hx,ha.eval hy,hrun]
 ·cases A'<;>simp[owns,row,Ik]
 · refine h8.mono fun g _ hg=>?_
   cases A with
   |none=>simp[Value.ownBlock]at hg
   |some a'=>simp[Value.ownBlock]at hg;simp[owns,row,Ik,hg]
 · intro g hg hl
   have hg':g∈Ik A':=by simpa[owns,row]using hg
   rcases h9 g (yA (w:=w) hg')with h|h
   · cases A with
     |none=>simp[Value.ownBlock]at h
     |some a'=>simp[Value.ownBlock]at h;simp[owns,row,Ik,h]
   ·omega
theorem Mk.appendStr{s:yB}(ho:o.op= .call {callee:= .builtin .append,args:=#[x,y],argTypes:=#[t,u]})(ht:ByteSl P t e)(hu:P.underlying u=some .string)
    (hx:ev ρ x=some (.slice none 0 0)) (hy:ev ρ y=some (.string s)) (hby:s.size≤140737488355328):
    Mk P o ρ Γ (fun v N=>∃A' cap',v= .slice A' s.size cap'∧N=[row e 1 A' s.size cap' (Lib.strCells s)]):=fun a w ha _=>by
 obtain⟨v',w',hrun,h7,h8,h9⟩:=Yb (ty:=o.type) ht hu (World.ownsRow_nil w 0 e 1) s om;rw[aQl,aRv]at h7;obtain⟨A',cap',rfl,_⟩:=Il h7;refine⟨_,_,w',?_,⟨A',cap',rfl,rfl⟩,⟨⟨fun c hc=>by rw[aPj.1 hc];exact h7,?_,by simp[reads,row]⟩,?_,?_,by simp[reads,row]⟩⟩
 · unfold execOp
   simp only[ho,resolve,invoke,builtin,aQm,aQv,aQf,List.map_toArray,aQd,aQz,ha.eval hx,ha.eval hy,hrun]
 ·cases A'<;>simp[owns,row,Ik]
 ·exact h8.mono fun _ _ h=>by simp[Value.ownBlock]at h
 · intro g hg hl
   have hg':g∈Ik A':=by simpa[owns,row]using hg
   rcases h9 g (yA (w:=w) hg')with h|h
   ·simp[Value.ownBlock]at h
   ·omega
theorem Ge.unsafeStr{b n cap i:Nat}{l:List UInt8}{pt it:tI}(ho:o.op= .call {callee:= .builtin .unsafeString,args:=#[x,y],argTypes:=#[pt,it]})(hp:P.underlying pt=some (.pointer e))(hc:P.cellsOf e=1)
    (hx:ev ρ x=some (pv b)) (hy:ev ρ y=some (.int .i64 (n:Int))) (hi:Γ[i]?=some (row e 1 (some ⟨b,0,none⟩) n cap (l.map fun z=>Value.int .u8 z.toNat))) (hn:0<n) (hb:n≤140737488355328):
    Ge P o ρ Γ (fun v Γ'=>v= .string ⟨l.toArray⟩∧Γ'=Γ.eraseIdx i):=fun a w ha hs=>by
 have hrow:w.ownsRow 0 e 1 (.slice (some ⟨b,0,none⟩) n cap) n (l.map fun z=>Value.int .u8 z.toNat):=hs.each _ (av hi);have hl:l.length=n:=by have:=hrow.1;simpa using this
 rcases hrow.2 with⟨hv,_⟩|⟨g,cap',cur,hv,_,hgg,hnc,hcm,hcs,htake⟩
 ·cases hv
 simp only[Value.slice.injEq,aPt,Addr.mk.injEq]at hv;obtain⟨⟨rfl,_⟩,_,rfl⟩:=hv;have hcell:∀j z,l[j]?=some z→w.cell? ((⟨b,0,none⟩:Addr).add j)=some (.int .u8 z.toNat):=fun j z hz=>
  hrow.cells (g:=b) rfl j _ (by rw[aPs,hz];rfl)
 have hrun:=Lib.run_unsafeString_row (P:=P) w pt it o.type e hp hc b cur.size (by simp[World.shape?,hgg]) l (by intro h;rw[h]at hl;simp at hl;omega) (by rw[hcs];omega) om hcell;rw[hl]at hrun;have hpm:=Iy hi;have hs2:=hs.perm hpm;have hrest:sat (Γ.eraseIdx i) w:=Sep.sat.right (Γ:=[_]) hs2;have hnb:∀g,g∈owns (Γ.eraseIdx i)∨g∈reads (Γ.eraseIdx i)→g≠b:=by
  intro g hg e0;subst e0;have hown:g∈owns [row e 1 (some ⟨g,0,none⟩) n cap (l.map fun z=>Value.int .u8 z.toNat)]:=by simp[owns,row,Ik]
  rcases hg with hg|hg
  · have:=hs2.nodup
    rw[show(row e 1 (some ⟨g,0,none⟩) n cap (l.map fun z=>Value.int .u8 z.toNat)::Γ.eraseIdx i)=[row e 1 (some ⟨g,0,none⟩) n cap (l.map fun z=>Value.int .u8 z.toNat)]++Γ.eraseIdx i from rfl,Dm]at this;exact(List.nodup_append.1 this).2.2 g hown g hg rfl
  ·exact hs2.apart g (by simp[reads,row];exact dw.1 hg) (by simp[owns,row,Ik])
 have hother:∀g,g≠b→(w.freeze ⟨b,0,none⟩ n).heap[g]?=w.heap[g]?:=fun g hg=>by
  unfold World.freeze;split
  ·rfl
  ·simp[Array.getElem?_modify,Ne.symm hg]
 have hsz:(w.freeze ⟨b,0,none⟩ n).heap.size=w.heap.size:=by
  unfold World.freeze;split<;>simp
 refine⟨_,_,w.freeze ⟨b,0,none⟩ n,?_,⟨rfl,rfl⟩,⟨⟨fun c hc=>?_,hrest.nodup,hrest.apart⟩,⟨?_,?_,?_,Nat.le_of_eq hsz.symm,fun g hg hn=>?_,?_⟩,fun g hg _=>?_,fun g hg _=>?_⟩⟩
 · unfold execOp
   simp only[ho,resolve,invoke,builtin,aQm,aQv,aQf,List.map_toArray,aQd,aQz,ha.eval hx,ha.eval hy,hrun]
 · refine c.loc w _ (fun g hg=>hother g (hnb g ?_)) (hrest.each c hc)
   exact hg.imp (fun h=>Rz.2 ⟨c,hc,h⟩) (fun h=>dw.2 ⟨c,hc,h⟩)
 ·unfold World.freeze;split<;>rfl
 ·unfold World.freeze;split<;>rfl
 ·unfold World.freeze;split<;>rfl
 · refine hother g fun e0=>hn ?_
   subst e0;exact(hpm.flatMap_right Ad.owns).mem_iff.2 (by simp[row,Ik])
 ·unfold World.freeze;split<;>exact aPl _
 ·exact(hpm.flatMap_right Ad.owns).mem_iff.2 (aRh _ hg)
 ·exact .inr ((hpm.flatMap_right Ad.reads).mem_iff.2 (aRh _ hg))
end
def dE:Nat→Nat→List Nat→Bool
 |_,0,[]=>true
 |i,n+1,j::r=>bif Nat.beq i j then dE (i+1) n r else false
 |_,_,_=>false
def dF:List AV→List AV
 |[]=>[]
 |v::r=>Lp v++dF r
def mI(zs:List AV):Nat→List AV
 |0=>[]
 |n+1=>zs++mI zs n
def mkA(P:pG)(k:Nat)(ρ:Dq):Op→oP Res
 | .alloc ty=>match fM P ty with
   |some zs=>some (.mk (.ptr k 0) [⟨k, .box ty,zs⟩] (k+1))
   |none=>none
 | .box ty x=>match aev ρ x with
   |some v=>some (.mk (.ptr k 0) [⟨k, .box ty,Lp v⟩] (k+1))
   |none=>none
 | .buildSlice t len parts=>match Pi P t,Vn ρ parts.toList with
   |some s,some l=>bif Nat.beq len 0 then(bif parts.toList.isEmpty then some (.mk (.sl k 0 0 0) [⟨k, .row s.e s.size 0 (.kn 0),[]⟩] (k+1))else none)else bif dE 0 len (l.map (·.1))&&Nat.blt 0 len&&Nat.ble (len*s.size) 16777216&&(l.map (·.2)).all (fun v=>Nat.beq (Lp v).length s.size)then
       some (.mk (.sl k 0 len len) [⟨k, .row s.e s.size len (.kn len),dF (l.map (·.2))⟩] (k+1))else none
   |_,_=>none
 | .makeSlice t x y=>match Pi P t,dB ρ x,dB ρ y with
   | some s,some n,some c=>bif Nat.beq n c then(bif Nat.ble (s.bytes*n) 16777216&&Nat.ble n 16777216 then
       some (.mk (.sl k 0 n n) [⟨k, .row s.e s.size n (.kn n),mI s.zs n⟩] (k+1))else none)
     else bif Nat.beq n 0&&Nat.ble (s.bytes*c) 16777216&&Nat.ble c 16777216 then some (.mk (.sl k 0 0 c) [⟨k, .row s.e s.size 0 (.kn c),[]⟩] (k+1))else none
   |_,_,_=>none
 | .makeMap _ none=>some (.mk (.mp k) [⟨k, .maps [],[]⟩] (k+1))
 |_=>none
def MX:AC→AC→Bool
 | .kn a, .kn b=>Nat.beq a b
 | .un a b, .un c d=>Nat.beq a c&&Nat.beq b d
 |_,_=>false
def SQ(M:List MC)(size:Nat)(v:AV):oP (Nat×List AV):=
 match v with
 | .nils=>some (0,[])
 | v =>match slv v with
   | some (i,q,l,_)=>match find M i with
     | some (_,c)=>match Qb c with
       |some cs=>bif Nat.ble (q+l*size) cs.length then some (l,jB cs q (l*size))else none
       |none=>none
     |none=>none
   |none=>none
def fresh:AV→Bool
 | .nils=>true
 | .sl _ _ 0 0=>true
 |_=>false
def rA(s:List Nat):List AV:=s.map fun b=> .int .u8 (Int.ofNat (b%256))
def JG(M:List MC)(v:AV)(e size:Nat):oP (Nat×Nat×Nat×AC×MC):=
 match slv v with
 | some (i,0,n,c)=>match find M i with
   | some (j,b)=>match b.kd with
     | .row e' size' n' c'=>bif Nat.beq e' e&&Nat.beq size' size&&Nat.beq n' n&&MX c' c then some (j,i,n,c,b)else none
     |_=>none
   |none=>none
 |_=>none
def aFw (P : pG)(k:Nat)(ρ:Dq)(M:List MC):Op→oP Res
 | .call c => match c.callee,c.args.toList,c.argTypes.toList with
   | .builtin .append,[x,y],[t,t']=>match aev ρ x,aev ρ y with
     | some v,some (.str s)=>match EM P t with
       | some e=>bif Rh P t'&&Nat.beq s.length 0 then(match v with
         | .nils=>some (.val .nils)
         | v=>match slv v with
           |some (_,_,l,c)=>bif Nat.ble l (Ow c)then some (.val v)else none
           |none=>none)else
         bif Rh P t'&&Nat.ble s.length 16777216&&Nat.blt 0 s.length then(match v with
         | .nils=>some (.mk (.slu k 0 s.length (k+1) s.length) [⟨k, .row e 1 s.length (.un (k+1) s.length),rA s⟩] (k+2))
         | v=>match JG M v e 1 with
           |some (j,_,n,_,b)=>bif Nat.ble n 16777216 then some (.ge (.slu k 0 (n+s.length) (k+1) (n+s.length)) (M.set j ⟨k, .row e 1 (n+s.length) (.un (k+1) (n+s.length)),b.cs++rA s⟩) (k+2))else none
           |none=>none)else none
       |none=>none
     | some v,some u=>match Pi P t with
       | some s =>match SQ M s.size u with
         | some (m,us)=>bif Nat.beq t t'&&us.all one&&Nat.beq us.length (m*s.size)&&Nat.ble (m*s.bytes) 16777216&&Nat.ble m 16777216 then
             bif Nat.beq m 0 then(match v with
              | .nils=>some (.val .nils)
              | v=>match slv v with
                |some (_,_,l,c)=>bif Nat.ble l (Ow c)then some (.val v)else none
                |none=>none)
             else bif fresh v then some (.mk (.slu k 0 m (k+1) m) [⟨k, .row s.e s.size m (.un (k+1) m),us⟩] (k+2))
             else(match JG M v s.e s.size with
              |some (j,_,n,_,b)=>bif Nat.ble ((n+m)*s.bytes) 16777216&&Nat.ble n 16777216 then some (.ge (.slu k 0 (n+m) (k+1) (n+m)) (M.set j ⟨k, .row s.e s.size (n+m) (.un (k+1) (n+m)),b.cs++us⟩) (k+2))else none
              |none=>none)
           else none
         |none=>none
       |none=>none
     |_,_=>none
   |_,_,_=>none
 |_=>none
def rC (P:pG)(k:Nat)(ρ:Dq)(M:List MC):Op→oP Res
 | .call c =>match c.callee,c.args.toList,c.argTypes.toList with
   | .builtin .unsafeString,[x,y],[pt,_]=>match aev ρ x,aev ρ y,P.underlying pt with
     | some (.ptr i 0),some (.int .i64 (.ofNat n)),some (.pointer e)=>match find M i with
       | some (j,b)=>match b.kd with
         | .row e' size n' _=>bif Nat.beq e' e&&Nat.beq size 1&&Nat.beq n' n&&Nat.beq (P.cellsOf e) 1&&Nat.blt 0 n&&Nat.ble n 16777216 then(match lettersA b.cs with
           |some s=>some (.ge (.str s) (M.eraseIdx j) k)
           |none=>none)else none
         |_=>none
       |none=>none
     |_,_,_=>none
   |_,_,_=>none
 |_=>none
where
 lettersA:List AV→oP (List Nat)
  |[]=>some []
  | .int .u8 (.ofNat b)::r=>match lettersA r with
    |some l=>bif Nat.blt b 256 then some (b::l)else none
    |none=>none
  |_=>none
section
variable{P:pG}{o:Oper}{ρ:Dq}{M M':List MC}{σ:Nat→Nat}{v:AV}{k:Nat}{r:Res}
def upd(σ:Nat→Nat)(k b:Nat):Nat→Nat:=fun i=>if i=k then b else σ i
theorem Rm{b:Nat}:Sup k σ (upd σ k b):=fun i hi=>by unfold upd;rw[aPf om]
theorem SS{b:Nat}:upd σ k b k=b:=by unfold upd;rw[aPr rfl]
theorem Ol{b:Nat}(hk:4096≤k):bl (upd σ k b) k=b:=by
 unfold bl;have:Nat.blt k 4096=false:=by
  cases h:Nat.blt k 4096 with
  |false=>rfl
  |true=>have:=aPd h;omega
 rw[this];exact SS
theorem Sup.trans{k':Nat}{σ σ' σ'':Nat→Nat}(hk:k≤k')(h:Sup k σ σ')(h':Sup k' σ' σ''):Sup k σ σ'':=fun i hi=>(h i hi).trans (h' i (aRz hi hk))
theorem Yc{b c:Nat}:Sup k σ (upd (upd σ k b) (k+1) c):=fun i hi=>by unfold upd;rw[aPf om,aPf om]
theorem jM{b c:Nat}(hk:4096≤k):bl (upd (upd σ k b) (k+1) c) k=b:=by
 rw[←Vm (k:=k+1) (fun i hi=>(Rm (σ:=upd σ k b) (k:=k+1) (b:=c)) i hi) (Nat.lt_succ_self k)];exact Ol hk
theorem jN{b c:Nat}:upd (upd σ k b) (k+1) c (k+1)=c:=SS
theorem mJ:∀{n i:Nat} {l:List Nat},dE i n l=true→l=List.range' i n
 |0,_,[],_=>rfl
 |0,_,_::_,h=>by cases h
 |_+1,_,[],h=>by cases h
 | n +1,i,j::r,h=>by
   unfold dE at h;cases hb:Nat.beq i j with
   |false=>rw[hb]at h;cases h
   | true=>
     rw[hb]at h;rw[List.range'_succ,←aPp hb,←mJ h]
theorem rD:∀l:List AV,Dp σ (dF l)=(Dp σ l).flatMap fun v=>v.cells.toList
 |[]=>rfl
 | v::r=>by
   show Dp σ (Lp v++dF r)=((val σ v)::Dp σ r).flatMap _;rw[aQq,←rD r,Si,Eg,aPn,←Eg,←Eg]
theorem rE:∀{l:List AV},(∀v∈l,bel k v)→Es k (dF l)
 |[],_=>by simp only[dF,Es]
 | v::r,h=>by
   rw[Mj];intro z hz;rcases aQp.1 (show z∈Lp v++dF r from hz)with hz|hz
   ·exact Mj.1 (aP (h v (aPc ..))) z hz
   ·exact Mj.1 (rE fun v hv=>h v (aPb _ hv)) z hz
theorem rF{zs:List AV}:∀n,Dp σ (mI zs n)=(List.replicate n (Dp σ zs)).flatten
 |0=>rfl
 | n+1=>by
   show Dp σ (zs++mI zs n)=_;rw[List.replicate_succ,List.flatten_cons,←rF n,Eg,aPn,←Eg,←Eg]
theorem rG{zs:List AV}(h:Es k zs):∀n,Es k (mI zs n)
 |0=>by simp only[mI,Es]
 | n+1=>by
   rw[Mj];intro z hz;rcases aQp.1 (show z∈zs++mI zs n from hz)with hz|hz
   ·exact Mj.1 h z hz
   ·exact Mj.1 (rG h n) z hz
theorem Mk.mono{R R':vU→List Ad→Prop}{ρ:Bo}{Γ:List Ad}(h:Mk P o ρ Γ R)(hr:∀v N w,R v N→sat N w→R' v N):Mk P o ρ Γ R':=fun a w ha hs=>by
 obtain⟨v,N,w',h1,h2,h3⟩:=h a w ha hs;exact⟨v,N,w',h1,hr v N w' h2 h3.sat,h3⟩
theorem Ge.mono{R R':vU→List Ad→Prop}{ρ:Bo}{Γ:List Ad}(h:Ge P o ρ Γ R)(hr:∀v N w,R v N→sat N w→R' v N):Ge P o ρ Γ R':=fun a w ha hs=>by
 obtain⟨v,N,w',h1,h2,h3⟩:=h a w ha hs;exact⟨v,N,w',h1,hr v N w' h2 h3.sat,h3⟩
theorem YQ{t e:tI}{size bytes:Nat}{zs:List vU}{ρ:Bo}{Γ:List Ad}(ho:o.op= .buildSlice t 0 #[])(ht:Cj P t e size bytes zs):Mk P o ρ Γ (fun v N=>∃b,v= .slice (some ⟨b,0,none⟩) 0 0∧N=[row e size (some ⟨b,0,none⟩) 0 0 []]):=fun a w _ _=>by
 refine⟨_,_,w.alloc (.cells #[] e),?_,⟨w.heap.size,rfl,rfl⟩,Dk.new (uI (us:=[]) sm (by simp[maxLen])) rfl rfl⟩;obtain⟨i,z,h1,h2,h3,_⟩:=ht.inf;unfold execOp;simp[ho,Instr.buildSlice,run_underlying ht.und,sizeOf,typeInfo,h1,Instr.fill,newRow];rw[show Array.map (fun(_:Nat)=>(default:vU)) (Array.range 0)=#[]from Array.eq_empty_of_size_eq_zero sm]
theorem aFx(hk:4096≤k)(hb:Rk k ρ)(h:mkA P k ρ o.op=some r):aC P o ρ M k r:=by
 generalize ho:o.op=op at h;have hup:∀{cs:List AV},Es k cs→∀σ b,Dp (upd σ k b) cs=Dp σ cs:=fun hc σ b=>(Na (fun i hi=>(Rm (σ:=σ) (b:=b)) i hi) _ hc).symm;unfold mkA at h;split at h
 · rename_i ty
   split at h
   · rename_i zs hz
     cases h;have hbz:=Xx (k:=k) hz;refine⟨Nat.le_succ _,by simp only[bel];omega,fun c hc=>?_,fun σ=>Mk.mono (Mk.alloc ho (fO hz σ)) ?_⟩
     ·rw[aPj.1 hc];exact⟨Nat.lt_succ_self _,trivial,Ph (Nat.le_succ _) _ hbz⟩
     · rintro _ _ w ⟨b,rfl,rfl⟩ _
       refine⟨upd σ k b,Rm,by simp only[val,Ol hk],?_⟩;simp only[mem,ck,aQd,aQz,Ol hk,hup hbz]
   ·cases h
 · rename_i ty x
   split at h
   · rename_i u hx
     cases h;have hbz:=aP (Gv hk hb hx);refine⟨Nat.le_succ _,by simp only[bel];omega,fun c hc=>?_,fun σ=>Mk.mono (Mk.box ho (Ij hx) Si) ?_⟩
     ·rw[aPj.1 hc];exact⟨Nat.lt_succ_self _,trivial,Ph (Nat.le_succ _) _ hbz⟩
     · rintro _ _ w ⟨b,rfl,rfl⟩ _
       refine⟨upd σ k b,Rm,by simp only[val,Ol hk],?_⟩;simp only[mem,ck,aQd,aQz,Ol hk,hup hbz]
   ·cases h
 · rename_i t len parts
   split at h
   · rename_i s l hs hl
     cases h00:Nat.beq len 0 with
     | true=>
       rw[h00]at h;simp only[aQw]at h;have e00:=aPp h00;subst e00;cases hpe:parts.toList.isEmpty with
       |false=>rw[hpe]at h;cases h
       | true=>
         rw[hpe]at h;cases h;have ep:parts=#[]:=by rw[←Array.toList_inj];exact List.isEmpty_iff.1 hpe
         subst ep;refine⟨Nat.le_succ _,by simp only[bel];omega,fun c hc=>?_,fun σ=>Mk.mono (YQ ho (Kb hs σ)) ?_⟩
         ·rw[aPj.1 hc];exact⟨Nat.lt_succ_self _,trivial,by simp only[Es]⟩
         · rintro _ _ w ⟨b,rfl,rfl⟩ _
           refine⟨upd σ k b,Rm,by simp only[val,Ol hk],?_⟩;simp only[mem,ck,cp,aQd,aQz,Ol hk,Dp]
     |false=>
     rw[h00]at h;simp only[cond_false]at h;cases hq:(dE 0 len (l.map (·.1))&&Nat.blt 0 len&&Nat.ble (len*s.size) 16777216&&(l.map (·.2)).all (fun v=>Nat.beq (Lp v).length s.size))with
     |false=>rw[hq]at h;cases h
     | true=>
       rw[hq]at h;cases h;simp only[aPk]at hq;obtain⟨⟨⟨h1,h2⟩,h3⟩,h4⟩:=hq;have hbl:=aQ hk hb hl;have hbz:Es k (dF (l.map (·.2))):=rE fun v hv=>by
        obtain⟨p,hp,rfl⟩:=aPx.1 hv;exact hbl p hp
       refine⟨Nat.le_succ _,by simp only[bel];omega,fun c hc=>?_,fun σ=>?_⟩
       ·rw[aPj.1 hc];exact⟨Nat.lt_succ_self _,trivial,Ph (Nat.le_succ _) _ hbz⟩
       · obtain⟨g1,g2⟩:=fZ (σ:=σ) hl
         have e1:(l.map fun p=>(p.1,val σ p.2)).map (·.2)=Dp σ (l.map (·.2)):=by rw[Eg,aRt,aRt];rfl
         have e2:(l.map fun p=>(p.1,val σ p.2)).map (·.1)=l.map (·.1):=by rw[aRt];rfl
         rw[e1]at g1;rw[e2]at g2;refine Mk.mono (IR (parts:=parts.toList) (us:=Dp σ (dF (l.map (·.2)))) (by rw[ho]) (Kb hs σ) g1 (by rw[g2,mJ h1]) h2 h3 ?_ (rD _).symm) ?_
         · rw[Eg,List.all_map,aRd]
           intro v hv;have:=aRd.1 h4 v hv;show Nat.beq (val σ v).cells.size s.size=true;rw[Si];simpa[Ip]using this
         · rintro _ _ w ⟨b,rfl,rfl⟩ _
           refine⟨upd σ k b,Rm,by simp only[val,Ol hk],?_⟩;simp only[mem,ck,cp,aQd,aQz,Ol hk,hup hbz]
   ·cases h
 · rename_i t x y
   split at h
   · rename_i s n c hs hx hy
     have hbz:=xO (k:=k) hs;cases hq:Nat.beq n c with
     | true=>
       rw[hq]at h;simp only[aQw]at h;have e:=aPp hq;subst e;cases hq2:(Nat.ble (s.bytes*n) 16777216&&Nat.ble n 16777216)with
       |false=>rw[hq2]at h;cases h
       | true=>
         rw[hq2]at h;cases h;rw[aPk]at hq2;have g1:=aPd hq2.1;have g2:=aPd hq2.2;have hbr:=rG hbz n;refine⟨Nat.le_succ _,by simp only[bel];omega,fun c hc=>?_,fun σ=>?_⟩
         ·rw[aPj.1 hc];exact⟨Nat.lt_succ_self _,trivial,Ph (Nat.le_succ _) _ hbr⟩
         · obtain⟨kl,hx'⟩:=Jl (σ:=σ) hx
           obtain⟨kc,hy'⟩:=Jl (σ:=σ) hy;have ht:=Kb hs σ;refine Mk.mono (kY ho ht hx' hy' om (by simp only[maxLen];omega)) ?_;rintro _ _ w ⟨b,rfl,rfl⟩ _;refine⟨upd σ k b,Rm,by simp only[val,Ol hk],?_⟩;simp only[mem,ck,cp,aQd,aQz,Ol hk,hup hbr];rw[Wu _ _ _ ht.len ht.pos,rF]
     | false=>
       rw[hq]at h;simp only[cond_false]at h;cases hq2:(Nat.beq n 0&&Nat.ble (s.bytes*c) 16777216&&Nat.ble c 16777216)with
       |false=>rw[hq2]at h;cases h
       | true=>
         rw[hq2]at h;cases h;simp only[aPk]at hq2;obtain⟨⟨g0,g1⟩,g2⟩:=hq2;have g1:=aPd g1;have g2:=aPd g2;have e:=aPp g0;subst e;refine⟨Nat.le_succ _,by simp only[bel];omega,fun c hc=>?_,fun σ=>?_⟩
         ·rw[aPj.1 hc];exact⟨Nat.lt_succ_self _,trivial,by simp only[Es]⟩
         · obtain⟨kl,hx'⟩:=Jl (σ:=σ) hx
           obtain⟨kc,hy'⟩:=Jl (σ:=σ) hy;refine Mk.mono (RD ho (Kb hs σ) hx' hy' om (by simp only[maxLen];omega)) ?_;rintro _ _ w ⟨b,rfl,rfl⟩ _;refine⟨upd σ k b,Rm,by simp only[val,Ol hk],?_⟩;simp only[mem,ck,cp,aQd,aQz,Ol hk,Dp]
   ·cases h
 · cases h
   refine⟨Nat.le_succ _,by simp only[bel];omega,fun c hc=>?_,fun σ=>Mk.mono (Zz (fun b:yB=> .string b) (fun v:vU=>v) ho) ?_⟩
   ·rw[aPj.1 hc];exact⟨Nat.lt_succ_self _,(fun p hp=>by cases hp),by simp only[Es]⟩
   · rintro _ _ w ⟨b,rfl,rfl⟩ _
     refine⟨upd σ k b,Rm,by simp only[val,Ol hk],?_⟩;simp only[mem,ck,aQd,aQz,Ol hk,prs]
 ·cases h
end
section
variable{P:pG}{o:Oper}{ρ:Dq}{M M':List MC}{σ:Nat→Nat}{v:AV}{k:Nat}{r:Res}
theorem JH{a b:AC}(h:MX a b=true):a=b:=by
 cases a<;>cases b<;>first|(cases h;done)|skip
 ·simp only[MX]at h;rw[aPp h]
 ·simp only[MX,aPk]at h;rw[aPp h.1,aPp h.2]
theorem MZ{c:MC}{cs:List AV}(hc:Qb c=some cs){i j:Nat}(hf:find M i=some (j,c))(q n:Nat):∀w,oks (mem σ M) w→Src w (some ⟨bl σ i,q,none⟩) (Dp σ (jB cs q n)):=fun w hw=>by
 have h:=lV (σ:=σ) hc q n w (hw _ (av (Qz (σ:=σ) hf)));rw[(Kq hf).2]at h;exact .inr ⟨_,_,rfl,h⟩
theorem YR{size:Nat}{u:AV}{m:Nat}{us:List AV}(h:SQ M size u=some (m,us)):∃A:(Nat→Nat)→OA,∃c:(Nat→Nat)→Nat,∀σ,val σ u= .slice (A σ) m (c σ)∧∀w,oks (mem σ M) w→Src w (A σ) (Dp σ us):=by
 unfold SQ at h;split at h
 · cases h
   exact⟨fun _=>none,fun _=>0,fun σ=>⟨by simp only[val],fun w _=> .inl rfl⟩⟩
 · split at h
   · rename_i i q l c hs
     split at h
     · rename_i j b hf
       split at h
       · rename_i cs hc
         cases hb:Nat.ble (q+l*size) cs.length with
         |false=>rw[hb]at h;cases h
         | true=>
           rw[hb]at h;cases h;exact⟨fun σ=>some ⟨bl σ i,q,none⟩,fun σ=>cp σ c,fun σ=>⟨Zg hs,MZ hc hf q _⟩⟩
       ·cases h
     ·cases h
   ·cases h
theorem SV{size:Nat}{u:AV}{m:Nat}{us:List AV}(h:SQ M size u=some (m,us))(hM:Lm k M):Es k us:=by
 unfold SQ at h;split at h
 ·cases h;simp only[Es]
 · split at h
   · split at h
     · rename_i j b hf
       split at h
       · rename_i cs hc
         cases hb:Nat.ble _ cs.length with
         |false=>rw[hb]at h;cases h
         |true=>rw[hb]at h;cases h;exact lW (aR hc (hM b (Qp hf)))
       ·cases h
     ·cases h
   ·cases h
theorem yC{e size j i n:Nat}{c:AC}{b:MC}(h:JG M v e size=some (j,i,n,c,b)):find M i=some (j,b)∧b.kd= .row e size n c∧∀σ,val σ v= .slice (some ⟨bl σ i,0,none⟩) n (cp σ c):=by
 unfold JG at h;split at h
 · rename_i i' n' c' hs
   split at h
   · rename_i j' b' hf
     split at h
     · rename_i e2 size2 n2 c2 hk
       cases hq:(Nat.beq e2 e&&Nat.beq size2 size&&Nat.beq n2 n'&&MX c2 c')with
       |false=>rw[hq]at h;cases h
       | true=>
         rw[hq]at h;cases h;simp only[aPk]at hq;obtain⟨⟨⟨h1,h2⟩,h3⟩,h4⟩:=hq;rw[aPp h1,aPp h2,aPp h3,JH h4]at hk;exact⟨hf,hk,fun σ=>Zg hs⟩
     ·cases h
   ·cases h
 ·cases h
theorem SX(h:fresh v=true):∃A:(Nat→Nat)→OA,∀σ,val σ v= .slice (A σ) 0 0:=by
 unfold fresh at h;split at h
 ·exact⟨fun _=>none,fun σ=>by simp only[val]⟩
 ·rename_i i q;exact⟨fun σ=>some ⟨bl σ i,q,none⟩,fun σ=>by simp only[val]⟩
 ·cases h
theorem rH{s:List Nat}:Lib.strCells (fT s)=Dp σ (rA s):=by
 unfold Lib.strCells fT rA;rw[Eg];simp[aRt,Function.comp_def,val]
theorem gB{s:List Nat}:Es k (rA s):=by
 rw[Mj];intro z hz;obtain⟨b,_,rfl⟩:=aPx.1 hz;simp only[bel]
theorem Yd{a b:List AV}(h1:Es k a)(h2:Es k b):Es k (a++b):=by
 rw[Mj]at h1 h2⊢;exact fun z hz=>(aQp.1 hz).elim (h1 z) (h2 z)
theorem SY(hk:4096≤k){e size n:Nat}{cs:List AV}(hcs:Es k cs)(hn:0<n){u:vU}{N:List Ad}{w:wD}{xs:List vU}(hx:∀σ',Sup k σ σ'→Dp σ' cs=xs)(h:∃A' cap',u= .slice A' n cap'∧N=[Sep.row e size A' n cap' xs])(hs:sat N w):
    jC k σ (.slu k 0 n (k+1) n) [⟨k, .row e size n (.un (k+1) n),cs⟩] u N:=by
 obtain⟨A',cap',rfl,rfl⟩:=h;have hrow:w.ownsRow 0 e size (.slice A' n cap') n xs:=hs.each _ (aPc ..);have hA:=Qm hrow hn;obtain⟨A2,cap2,h1,_,h2,_⟩:=Il hrow;cases h1;refine⟨upd (upd σ k (blk A')) (k+1) (cap'-n),Yc,?_,?_⟩
 · simp only[val,jM hk,jN]
   rw[show n+(cap'-n)=cap' by omega,←hA]
 · simp only[mem,ck,cp,aQd,aQz,jM hk,jN]
   rw[show n+(cap'-n)=cap' by omega,←hA,hx _ Yc]
theorem jO{e size n:Nat}{cs:List AV}(hcs:Es k cs):aA (k+2) ⟨k, .row e size n (.un (k+1) n),cs⟩:=⟨by show k<k+2;omega,by show k+1<k+2;omega,Ph om _ hcs⟩
theorem yD(hk:4096≤k){e size n j:Nat}{cs:List AV}(hM:Lm k M)(hj:j<M.length)(hcs:Es k cs)(hn:0<n){u:vU}{Γ:List Ad}{w:wD}(h:∃A' cap',u= .slice A' n cap'∧Γ=(mem σ M).set j (Sep.row e size A' n cap' (Dp σ cs)))(hs:sat Γ w):
    jC k σ (.slu k 0 n (k+1) n) (M.set j ⟨k, .row e size n (.un (k+1) n),cs⟩) u Γ:=by
 obtain⟨A',cap',rfl,rfl⟩:=h;have hmem:Sep.row e size A' n cap' (Dp σ cs)∈(mem σ M).set j (Sep.row e size A' n cap' (Dp σ cs)):=List.mem_iff_getElem?.2 ⟨j,by simp[mem,hj]⟩;have hrow:w.ownsRow 0 e size (.slice A' n cap') n (Dp σ cs):=hs.each _ hmem;have hA:=Qm hrow hn;obtain⟨A2,cap2,h1,_,h2,_⟩:=Il hrow;cases h1;refine⟨upd (upd σ k (blk A')) (k+1) (cap'-n),Yc,?_,?_⟩
 · simp only[val,jM hk,jN]
   rw[show n+(cap'-n)=cap' by omega,←hA]
 · rw[jK,←Ma (fun i hi=>(Yc (σ:=σ) (b:=blk A') (c:=cap'-n)) i hi) hM]
   congr 1;simp only[ck,cp,jM hk,jN];rw[show n+(cap'-n)=cap' by omega,←hA,←Na (fun i hi=>(Yc (σ:=σ) (b:=blk A') (c:=cap'-n)) i hi) _ hcs]
theorem JI{i j:Nat}{c:MC}(h:find M i=some (j,c)):j<M.length:=(aOz.1 (Kq h).1).1
theorem yE{us:List AV}(h:us.all one=true):∀u∈Dp σ us,u.oneCell'=true:=aRd.1 (JF h)
theorem vE{t e:tI}{size bytes m cb:Nat}{zs xs:List vU}{A B:OA}{ρ:Bo}{Γ:List Ad}{x y:Operand}(ho:o.op= .call {callee:= .builtin .append,args:=#[x,y],argTypes:=#[t,t]})(ht:Cj P t e size bytes zs)
    (hx:ev ρ x=some (.slice A 0 0)) (hy:ev ρ y=some (.slice B m cb)) (hs:∀w,oks Γ w→Src w B xs) (hl:xs.length=m*size) (h1:∀u∈xs,u.oneCell'=true) (h0:0<m) (h63:m≤16777216) (hby:m*bytes≤16777216):
    Mk P o ρ Γ (fun v N=>∃A' cap',v= .slice A' m cap'∧N=[Sep.row e size A' m cap' xs]):=fun a w ha hG=>by
 obtain⟨it,zv,h2,h3,h4,h5,h6⟩:=ht.inf;have hsrc:=hs w hG;have hnil:w.ownsRow 0 e size (.slice none 0 0) 0 []:=World.ownsRow_nil w 0 e size;obtain⟨v',w',hrun,h7,h8,h9⟩:=Qy (P:=P) w 0 t o.type e it zv size bytes ht.und h2 h3 h4 h5 (by rw[h6];simpa using ht.len) ht.pos _ 0 [] hnil B m cb xs hl hsrc h1 (by simp only[maxLen];omega) (by rw[aQl];omega) (aQb _);have hrun2:(Builtin.append_ #[t,t] o.type #[.slice A 0 0, .slice B m cb]).run P w= .ok v' w':=by
  rw[←hrun];cases A with
  |none=>rfl
  | some b=>
    rcases hsrc with h|⟨g,off,rfl,hr⟩
    · have hp:=ht.pos
      have:0<m*size:=Nat.mul_pos h0 hp;rw[h]at hl;simp at hl;omega
    ·exact Ws ht.und h2 h3 b ⟨g,off,none⟩ m cb xs (by rw[hl,h4]) (fun j v hv=>by rw[Addr.add_mid];exact hr j v hv) h0 om (by rw[h5];omega)
 rw[aQl,aRv]at h7;obtain⟨A',cap',rfl,_⟩:=Il h7;have hnew:∀g,g∈Ik A'→g=w.heap.size:=fun g hg=>by
  obtain⟨ad,rfl,rfl⟩:=Pf.1 hg;rcases h9 with h9|h9
  ·simp[Value.ownBlock]at h9
  ·simp[Value.ownBlock]at h9;exact h9
 refine⟨_,_,w',?_,⟨A',cap',rfl,rfl⟩,⟨⟨fun c hc=>by rw[aPj.1 hc];exact h7,by cases A'<;>simp[owns,row,Ik],by simp[reads,row]⟩,h8.mono fun _ _ h=>by simp[Value.ownBlock]at h,fun g hg hl=>?_,by simp[reads,row]⟩⟩
 · unfold execOp
   simp only[ho,resolve,invoke,builtin,aQm,aQv,aQf,List.map_toArray,aQd,aQz,ha.eval hx,ha.eval hy,hrun2]
 · have:g∈Ik A':=by simpa[owns,row]using hg
   have:=hnew g this;omega
theorem aD{t u:tI}{e:Nat}{s:yB}{A:OA}{n cap:Nat}{ρ:Bo}{Γ:List Ad}{x y:Operand}(ho:o.op= .call {callee:= .builtin .append,args:=#[x,y],argTypes:=#[t,u]})(ht:ByteSl P t e)(hu:P.underlying u=some .string)
    (hx:ev ρ x=some (.slice A n cap)) (hy:ev ρ y=some (.string s)) (hs:s.size=0) (hc:n≤cap):Rd P o ρ Γ (.slice A n cap):=fun a w ha _=>by
 have hs2:s=bE:=by
  obtain⟨l⟩:=s;have:l=#[]:=Array.eq_empty_of_size_eq_zero hs;subst this;rfl
 subst hs2;have:(Builtin.append_ #[t,u] o.type #[.slice A n cap, .string bE]).run P w= .ok (.slice A n cap) w:=by
  obtain⟨i,h2,h3,h4,h5⟩:=ht.inf;cases A<;>simp[Builtin.append_,run_underlying ht.und,run_underlying hu,sizeOf,typeInfo,h2,Builtin.lenOf,Builtin.firstCells,hc,storeCells,loadCells,loadCellsFrom]
 unfold execOp;simp only[ho,resolve,invoke,builtin,aQm,aQv,aQf,List.map_toArray,aQd,aQz,ha.eval hx,ha.eval hy,this]
theorem aJz{as:Array Operand}{x y:Operand}(h:as.toList=[x,y]):as=#[x,y]:=by rw[←Array.toList_inj];exact h
theorem aEi{as:Array tI}{x y:tI}(h:as.toList=[x,y]):as=#[x,y]:=by rw[←Array.toList_inj];exact h
theorem YS (hk:4096≤k)(hb:Rk k ρ)(hM:Lm k M)(h:aFw P k ρ M o.op=some r):aC P o ρ M k r:=by
 generalize ho:o.op=op at h;unfold aFw at h;split at h
 · rename_i c
   obtain⟨cl,as,ts⟩:=c;simp only at h;split at h
   · rename_i x y t t' h1 h2
     have e1:=aJz h1;have e2:=aEi h2;subst e1 e2;split at h
     -- a word's letters
     · rename_i v s hx hy
       split at h
       · rename_i e hbs
         have hB:=byteSl_ok hbs;cases hz:(Rh P t'&&Nat.beq s.length 0)with
         | true=>
           rw[hz]at h;simp only[aQw]at h;simp only[aPk]at hz;obtain⟨q1,q2⟩:=hz;have q2:=aPp q2;split at h
           · cases h
             refine⟨by simp only[bel],fun σ=>?_⟩;simp only[val];exact aD ho hB (Qq q1) (evv (σ:=σ) hx) (evv (σ:=σ) hy) (by rw[Bd];exact q2) (aPl _)
           · split at h
             · rename_i l c hsv
               cases hl:Nat.ble l (Ow c)with
               |false=>rw[hl]at h;cases h
               | true=>
                 rw[hl]at h;cases h;have hl:=aPd hl;refine⟨Gv hk hb hx,fun σ=>?_⟩;have:=Uo (σ:=σ) (c:=c);rw[Zg hsv];exact aD ho hB (Qq q1) (EL hx hsv) (evv (σ:=σ) hy) (by rw[Bd];exact q2) om
             ·cases h
         |false=>
         rw[hz]at h;simp only[cond_false]at h;cases hq:(Rh P t'&&Nat.ble s.length 16777216&&Nat.blt 0 s.length)with
         |false=>rw[hq]at h;cases h
         | true=>
           rw[hq]at h;simp only[aQw]at h;simp only[aPk]at hq;obtain⟨⟨q1,q2⟩,q3⟩:=hq;have q2:=aPd q2;have q3:=aPd q3;split at h
           · cases h
             refine⟨by omega,by simp only[bel];omega,fun c hc=>by rw[aPj.1 hc];exact jO gB,fun σ=>?_⟩;have:=Mk.appendStr (Γ:=mem σ M) ho hB (Qq q1) (evv (σ:=σ) hx) (evv (σ:=σ) hy) (by rw[Bd];omega);rw[Bd]at this;exact Mk.mono this fun u N w hR hs=>SY hk gB q3 (fun σ' _=>(rH (σ:=σ') (s:=s)).symm) hR hs
           · split at h
             · rename_i j i n c b hon
               cases hn:Nat.ble n 16777216 with
               |false=>rw[hn]at h;cases h
               | true=>
                 rw[hn]at h;cases h;have hn:=aPd hn;obtain⟨g1,g2,g3⟩:=yC hon;have hbb:=hM b (Qp g1);have hcs:Es k (b.cs++rA s):=Yd hbb.cs gB;refine⟨by omega,by simp only[bel];omega,Xy (Pj om hM) (jO hcs),fun σ=>?_⟩;have hat:=Qz (σ:=σ) g1;have e3:ck σ b=Sep.row e 1 (some ⟨bl σ i,0,none⟩) n (cp σ c) (Dp σ b.cs):=by unfold ck;rw[g2,(Kq g1).2]
                 rw[e3]at hat
                 have hx':ev (Jp σ ρ) x=some (.slice (some ⟨bl σ i,0,none⟩) n (cp σ c)):=by rw[Ij (σ:=σ) hx,g3]
                 have:=Ge.appendStr (Γ:=mem σ M) ho hB (Qq q1) hx' (evv (σ:=σ) hy) hat (by rw[Bd];omega)
                 rw[Bd,rH (σ:=σ)]at this;refine Ge.mono this fun u N w hR hs=>yD hk hM (JI g1) hcs om ?_ hs;obtain⟨A',cap',r1,r2⟩:=hR;exact⟨A',cap',r1,by rw[r2,Eg,Eg,Eg,aPn]⟩
             ·cases h
       ·cases h
     -- elements of a slice
     · rename_i v u _ hx hy
       split at h
       · rename_i s hs
         split at h
         · rename_i m us hsrc
           cases hq:(Nat.beq t t'&&us.all one&&Nat.beq us.length (m*s.size)&&Nat.ble (m*s.bytes) 16777216&&Nat.ble m 16777216)with
           |false=>rw[hq]at h;cases h
           | true=>
             rw[hq]at h;simp only[aQw]at h;simp only[aPk]at hq;obtain⟨⟨⟨⟨q1,q2⟩,q3⟩,q4⟩,q5⟩:=hq;have q1:=aPp q1;have q3:=aPp q3;have q4:=aPd q4;have q5:=aPd q5;subst q1;obtain⟨Af,cf,hsf⟩:=YR hsrc;have hbu:=SV hsrc hM;cases hm:Nat.beq m 0 with
             | true=>
               rw[hm]at h;simp only[aQw]at h;have hm0:=aPp hm;split at h
               · cases h
                 refine⟨by simp only[bel],fun σ=>?_⟩;simp only[val];exact Vh ho (Kb hs σ) (evv (σ:=σ) hx) (by rw[Ij (σ:=σ) hy,(hsf σ).1]) hm0 (aPl _)
               · split at h
                 · rename_i l c hsv
                   cases hl:Nat.ble l (Ow c)with
                   |false=>rw[hl]at h;cases h
                   | true=>
                     rw[hl]at h;cases h;have hl:=aPd hl;refine⟨Gv hk hb hx,fun σ=>?_⟩;have:=Uo (σ:=σ) (c:=c);rw[Zg hsv];exact Vh ho (Kb hs σ) (EL hx hsv) (by rw[Ij (σ:=σ) hy,(hsf σ).1]) hm0 om
                 ·cases h
             | false =>
               rw[hm]at h;simp only[cond_false]at h;have hm0:0<m:=by
                rcases Nat.eq_zero_or_pos m with h|h
                ·rw[h]at hm;cases hm
                ·exact h
               cases hfr:fresh v with
               | true=>
                 rw[hfr]at h;cases h;obtain⟨Bf,hBf⟩:=SX hfr;refine⟨by omega,by simp only[bel];omega,fun c hc=>by rw[aPj.1 hc];exact jO hbu,fun σ=>?_⟩;have:=vE (Γ:=mem σ M) ho (Kb hs σ) (by rw[Ij (σ:=σ) hx,hBf]) (by rw[Ij (σ:=σ) hy,(hsf σ).1]) (hsf σ).2 (by rw[Ip];exact q3) (yE q2) hm0 q5 q4;exact Mk.mono this fun u N w hR hs=>SY hk hbu hm0 (fun σ' he=>(Na (fun i hi=>he i hi) _ hbu).symm) hR hs
               | false=>
                 rw[hfr]at h;simp only[cond_false]at h;split at h
                 · rename_i j i n c b hon
                   cases hn:(Nat.ble ((n+m)*s.bytes) 16777216&&Nat.ble n 16777216)with
                   |false=>rw[hn]at h;cases h
                   | true=>
                     rw[hn]at h;cases h;rw[aPk]at hn;have n1:=aPd hn.1;have n2:=aPd hn.2;obtain⟨g1,g2,g3⟩:=yC hon;have hbb:=hM b (Qp g1);have hcs:Es k (b.cs++us):=Yd hbb.cs hbu;refine⟨by omega,by simp only[bel];omega,Xy (Pj om hM) (jO hcs),fun σ=>?_⟩;have hat:=Qz (σ:=σ) g1;have e3:ck σ b=Sep.row s.e s.size (some ⟨bl σ i,0,none⟩) n (cp σ c) (Dp σ b.cs):=by unfold ck;rw[g2,(Kq g1).2]
                     rw[e3]at hat
                     have hx':ev (Jp σ ρ) x=some (.slice (some ⟨bl σ i,0,none⟩) n (cp σ c)):=by rw[Ij (σ:=σ) hx,g3]
                     have:=Ge.append (Γ:=mem σ M) ho (Kb hs σ) hx' (by rw[Ij (σ:=σ) hy,(hsf σ).1]) hat (fun w hw=>(hsf σ).2 w hw.each) (by rw[Ip];exact q3) (yE q2) (by simp only[maxLen];omega) om;refine Ge.mono this fun u N w hR hs=>yD hk hM (JI g1) hcs om ?_ hs;obtain⟨A',cap',r1,r2⟩:=hR;exact⟨A',cap',r1,by rw[r2,Eg,Eg,Eg,aPn]⟩
                 ·cases h
         ·cases h
       ·cases h
     ·cases h
   ·cases h
 ·cases h
theorem mK:∀{cs:List AV} {s:List Nat},rC.lettersA cs=some s→Dp σ cs=(s.map UInt8.ofNat).map fun z=>Value.int .u8 z.toNat
 |[],s,h=>by simp only[rC.lettersA,aPt]at h;subst h;rfl
 | c :: r,s,h=>by
   unfold rC.lettersA at h;split at h
   ·rename_i he;cases he
   · rename_i b r' he
     cases he;split at h
     · rename_i l hl
       cases hb:Nat.blt b 256 with
       |false=>rw[hb]at h;cases h
       | true=>
         rw[hb]at h;cases h;have:=aPd hb;simp only[Dp,val,mK hl,aQd];congr 2;simp;omega
     ·cases h
   ·cases h
theorem NA{j:Nat}:(mem σ M).eraseIdx j=mem σ (M.eraseIdx j):=by
 unfold mem
 induction M generalizing j with
 |nil=>rfl
 | cons c M ih=>
   cases j with
   |zero=>rfl
   |succ j=>simp only[aQd,List.eraseIdx_cons_succ,ih]
theorem TA(hk:4096≤k)(hM:Lm k M)(h:rC P k ρ M o.op=some r):aC P o ρ M k r:=by
 generalize ho:o.op=op at h;unfold rC at h;split at h
 · rename_i c
   obtain⟨cl,as,ts⟩:=c;simp only at h;split at h
   · rename_i x y pt it h1 h2
     have e1:=aJz h1;have e2:=aEi h2;subst e1 e2;split at h
     · rename_i i n e hx hy hu
       split at h
       · rename_i j b hf
         split at h
         · rename_i e' size n' c hkd
           cases hq:(Nat.beq e' e&&Nat.beq size 1&&Nat.beq n' n&&Nat.beq (P.cellsOf e) 1&&Nat.blt 0 n&&Nat.ble n 16777216)with
           |false=>rw[hq]at h;cases h
           | true=>
             rw[hq]at h;simp only[aQw]at h;simp only[aPk]at hq;obtain⟨⟨⟨⟨⟨q1,q2⟩,q3⟩,q4⟩,q5⟩,q6⟩:=hq;rw[aPp q1,aPp q2,aPp q3]at hkd;have q6:=aPd q6;split at h
             · rename_i s hls
               cases h;refine⟨aPl _,by simp only[bel],fun c hc=>hM c (List.mem_of_mem_eraseIdx hc),fun σ=>?_⟩;have hat:=Qz (σ:=σ) hf;have e3:ck σ b=Sep.row e 1 (some ⟨bl σ i,0,none⟩) n (cp σ c) ((s.map UInt8.ofNat).map fun z=>Value.int .u8 z.toNat):=by unfold ck;rw[hkd,(Kq hf).2];simp only[mK (σ:=σ) hls]
               rw[e3]at hat
               refine Ge.mono (Ge.unsafeStr ho hu (aPp q4) (evv (σ:=σ) hx) (evv (σ:=σ) hy) hat (aPd q5) om) ?_;rintro _ _ w ⟨rfl,rfl⟩ _;refine⟨σ,fun _ _=>rfl,by simp only[val,fT],?_⟩;exact NA
             ·cases h
         ·cases h
       ·cases h
     ·cases h
   ·cases h
 ·cases h
end
def cls:Op→Nat
 | .move _=>0
 | .assign _=>0
 | .pick _ _ _=>0
 | .extract _ _=>0
 | .nilCheck _=>0
 | .binOp _ _ _ _ _=>1
 | .unOp _ _ _=>1
 | .fieldAddr _ _ _=>2
 | .indexAddr _ _ _=>2
 | .index _ _ _=>2
 | .field _ _ _=>2
 | .build _ _=>2
 | .makeFunc _ _ _=>2
 | .slice _ _ _ _ _=>2
 | .load _ _=>3
 | .store _ _ _=>4
 | .mapUpdate _ _ _ _=>4
 | .alloc _=>5
 | .box _ _=>5
 | .buildSlice _ _ _=>5
 | .makeSlice _ _ _=>5
 | .makeMap _ _=>5
 | .convert _ _ _=>6
 | .call c=>match c.callee with
   | .builtin .append=>7
   | .builtin .unsafeString=>8
   | .builtin _=>9
   |_=>10
 |_=>99
def aKa(P:pG)(f:Nat):Bool:=
 match P.funcs[f]? with
 |some fn=>fn.body.isNone
 |none=>false
structure Same(P:pG) where
 is:Nat→Bool
 ok:∀f,is f=true→∀x w,(callFunc f #[x]).run P w= .ok (.value x) w
def yF{P:pG}(S:Same P)(ρ:Dq):Op→oP AV
 | .call c=>match c.callee,c.args.toList with
   | .value (.func f),[x]=>bif S.is f then aev ρ x else none
   |_,_=>none
 |_=>none
def aFy{P:pG}(S:Same P)(ρ:Dq)(ty:tI):Op→oP AV
 | .call c=>match c.callee with
   | .value (.func f)=>bif aKa P f then(match yF S ρ (.call c)with
     |some v=>some v
     |none=>uY P ρ ty (.call c))else none
   |_=>none
 |_=>none
def iJ:oP AV→oP Res
 |some v=>some (.val v)
 |none=>none
def aKb:oP (List MC)→oP Res
 |some v=>some (.up v)
 |none=>none
def mM{P:pG}(S:Same P)(k:Nat)(ρ:Dq)(M:List MC)(o:Oper):oP Res:=
 match cls o.op with
 |0=>iJ (moveA P ρ o.op)
 | 1=>match moveA P ρ o.op with
   |some v=>some (.val v)
   |none=>iJ (uY P ρ o.type o.op)
 |2=>iJ (EI P ρ o.op)
 |3=>iJ (mG P ρ M o.op)
 |4=>aKb (upA P ρ M o.op)
 |5=>mkA P k ρ o.op
 | 6=>match uY P ρ o.type o.op with
   |some v=>some (.val v)
   |none=>iJ (mG P ρ M o.op)
 |7=>aFw P k ρ M o.op
 |8=>rC P k ρ M o.op
 | 9 =>match EI P ρ o.op with
   |some v=>some (.val v)
   | none=>match mG P ρ M o.op with
     |some v=>some (.val v)
     |none=>iJ (uY P ρ o.type o.op)
 |10=>iJ (aFy S ρ o.type o.op)
 |_=>none
def yG(P:pG)(ρ:Dq):Op→oP (Nat×List AV)
 | .call c=>match c.callee with
   | .value x=>match aev ρ x,qC ρ c.args.toList with
     |some (.fn f fst cap),some vs=>bif Mw P f then some (f,fst++vs++cap)else none
     |_,_=>none
   |_=>none
 |_=>none
section
variable{P:pG}{S:Same P}{o:Oper}{ρ:Dq}{M:List MC}{k:Nat}{r:Res}{v:AV}
theorem TB{σ:Nat→Nat}{Γ:List Ad}(h:yF S ρ o.op=some v):Rd P o (Jp σ ρ) Γ (val σ v):=by
 generalize ho:o.op=op at h;unfold yF at h;split at h
 · rename_i c
   obtain⟨cl,as,ts⟩:=c;simp only at h;split at h
   · rename_i f x h2
     have e1:as=#[x]:=by rw[←Array.toList_inj];exact h2
     subst e1;cases hs:S.is f with
     |false=>rw[hs]at h;cases h
     | true=>
       rw[hs]at h;simp only[aQw]at h;have hx:=Ij (σ:=σ) h;exact fun a w ha _=>by
        unfold execOp;have hf:a.eval (.func f)= .func (.func f) #[] #[]:=rfl;simp[ho,resolve,hf,Deferred.ofValue,invoke,ha.eval hx,S.ok f hs]
   ·cases h
 ·cases h
theorem NB{op:Op}(hk:4096≤k)(hb:Rk k ρ)(h:yF S ρ op=some v):bel k v:=by
 unfold yF at h;split at h
 · split at h
   · cases hs:S.is _ with
     |false=>rw[hs]at h;cases h
     |true=>rw[hs]at h;exact Gv hk hb h
   ·cases h
 ·cases h
theorem YT(hk:4096≤k)(hb:Rk k ρ)(h:aFy S ρ o.type o.op=some v):aC P o ρ M k (.val v):=by
 generalize ho:o.op=op at h;unfold aFy at h;split at h
 · split at h
   · cases he:aKa P _ with
     |false=>rw[he]at h;cases h
     | true=>
       rw[he]at h;simp only[aQw]at h;split at h
       · rename_i v' hv
         cases h;exact⟨NB hk hb hv,fun σ=>TB (by rw[ho];exact hv)⟩
       ·exact⟨xS h,fun σ=>JC (by rw[ho];exact h)⟩
   ·cases h
 ·cases h
theorem Om{x:oP AV}(h:iJ x=some r):∃v,x=some v∧r= .val v:=by
 cases x with
 |none=>cases h
 |some v=>cases h;exact⟨v,rfl,rfl⟩
theorem NC{x:oP (List MC)}(h:aKb x=some r):∃v,x=some v∧r= .up v:=by
 cases x with
 |none=>cases h
 |some v=>cases h;exact⟨v,rfl,rfl⟩
theorem Ye(hk:4096≤k)(hb:Rk k ρ)(hM:Lm k M)(h:mM S k ρ M o=some r):aC P o ρ M k r:=by
 have mv:∀{v},moveA P ρ o.op=some v→aC P o ρ M k (.val v):=fun h=>⟨MN hk hb h,fun σ=>SF h⟩
 have vl:∀{v},EI P ρ o.op=some v→aC P o ρ M k (.val v):=fun h=>⟨SN hk hb h,fun σ=>YP h⟩
 have sm:∀{v},uY P ρ o.type o.op=some v→aC P o ρ M k (.val v):=fun h=>⟨xS h,fun σ=>JC h⟩
 unfold mM at h;split at h
 ·obtain⟨v,h1,rfl⟩:=Om h;exact mv h1
 · split at h
   ·rename_i v h1;cases h;exact mv h1
   ·obtain⟨v,h1,rfl⟩:=Om h;exact sm h1
 ·obtain⟨v,h1,rfl⟩:=Om h;exact vl h1
 ·obtain⟨v,h1,rfl⟩:=Om h;exact Ya hk hb hM h1
 ·obtain⟨v,h1,rfl⟩:=NC h;exact aFv hk hb hM h1
 ·exact aFx hk hb h
 · split at h
   ·rename_i v h1;cases h;exact sm h1
   ·obtain⟨v,h1,rfl⟩:=Om h;exact Ya hk hb hM h1
 ·exact YS hk hb hM h
 ·exact TA hk hM h
 · split at h
   ·rename_i v h1;cases h;exact vl h1
   · split at h
     ·rename_i v h1;cases h;exact Ya hk hb hM h1
     ·obtain⟨v,h1,rfl⟩:=Om h;exact sm h1
 ·obtain⟨v,h1,rfl⟩:=Om h;exact YT hk hb h1
 ·cases h
theorem jQ{f:Nat}{vs:List AV}(h:yG P ρ o.op=some (f,vs))(σ:Nat→Nat):Ent P o (Jp σ ρ) f (Dp σ vs):=by
 generalize ho:o.op=op at h;unfold yG at h;split at h
 · rename_i c
   obtain⟨cl,as,ts⟩:=c;simp only at h;split at h
   · rename_i x
     split at h
     · rename_i f' fst cap us hx hu
       cases hc:Mw P f' with
       |false=>rw[hc]at h;cases h
       | true=>
         rw[hc]at h;cases h;have:=dn (P:=P) (ρ:=Jp σ ρ) (xs:=as.toList) (ts:=ts) (by rw[ho]) (evv (σ:=σ) hx) (bY hu) hc;rw[Eg,aPn,aPn,←Eg,←Eg,←Eg];exact this
     ·cases h
   ·cases h
 ·cases h
theorem dG{op:Op}{f:Nat}{vs:List AV}(hk:4096≤k)(hb:Rk k ρ)(h:yG P ρ op=some (f,vs)):Es k vs:=by
 unfold yG at h;split at h
 · split at h
   · split at h
     · rename_i f' fst cap us hx hu
       cases hc:Mw P f' with
       |false=>rw[hc]at h;cases h
       | true=>
         rw[hc]at h;cases h;have h1:=Gv hk hb hx;simp only[bel]at h1;exact Yd (Yd h1.1 (cK hk hb hu)) h1.2
     ·cases h
   ·cases h
 ·cases h
end
def YU(ops:Array Oper)(ρ:Dq)(o:Oper):oP Bool:=
 match o.guard with
 |none=>some true
 | some (j,s)=>match ops[j]? with
   | some p=>match p.dst with
     | some d=>match Tg ρ d with
       |some (.bool b)=>some (b==s)
       |some .und=>some false
       |_=>none
     |none=>none
   |none=>none
structure St where
 ρ:Dq
 M:List MC
 k:Nat
structure St.Good(s:St):Prop where
 big:4096≤s.k
 sl:Rk s.k s.ρ
 me:Lm s.k s.M
abbrev Ps:=Nat→List AV→List MC→Nat→oP (AV×List MC×Nat)
structure aKc(P:pG)(f:FuncId)(vs:List AV)(M:List MC)(k:Nat)(v:AV)(M':List MC)(k':Nat):Prop where
 le:k≤k'
 bval:bel k' v
 bmem:Lm k' M'
 does:∀σ,Bg P f (Dp σ vs) (mem σ M) (jC k σ v M')
def Nu(P:pG)(F:Ps):Prop:=∀f vs M k v M' k',F f vs M k=some (v,M',k')→4096≤k→Es k vs→Lm k M→aKc P f vs M k v M' k'
def YV(n:Nat)(d:oP Nat)(s:St):Res→oP St
 | .val v=>match d with
   |some d=>bif Nat.blt d n then some ⟨(d,v)::s.ρ,s.M,s.k⟩else none
   |none=>none
 | .up M'=>match d with
   |some _=>none
   |none=>some ⟨s.ρ,M',s.k⟩
 | .mk v N k'=>match d with
   |some d=>bif Nat.blt d n then some ⟨(d,v)::s.ρ,N++s.M,k'⟩else none
   |none=>none
 | .ge v M' k'=>match d with
   |some d=>bif Nat.blt d n then some ⟨(d,v)::s.ρ,M',k'⟩else none
   |none=>none
def TC{P:pG}(S:Same P)(F:Ps)(n:Nat)(ops:Array Oper)(o:Oper)(s:St):oP St:=
 match YU ops s.ρ o with
 |none=>none
 | some false=>match o.dst with
   |some d=>bif Nat.blt d n then some ⟨(d, .und)::s.ρ,s.M,s.k⟩else none
   |none=>none
 | some true=>match mM S s.k s.ρ s.M o with
   |some r=>YV n o.dst s r
   | none=>match yG P s.ρ o.op,o.dst with
     | some (f,vs),some d=>match F f vs s.M s.k with
       |some (v,M',k')=>bif Nat.blt d n then some ⟨(d,v)::s.ρ,M',k'⟩else none
       |none=>none
     |_,_=>none
def TD{P:pG}(S:Same P)(F:Ps)(n:Nat)(ops:Array Oper):List Oper→St→oP St
 |[],s=>some s
 | o::r,s=>match TC S F n ops o s with
   |some s'=>TD S F n ops r s'
   |none=>none
def Goes(C:Cx)(s s':St)(K' K:Act→wD→Prop):Prop:=
 ∀σ,(∀σ',Sup s.k σ σ'→To C (Jp σ' s'.ρ) (mem σ' s'.M) K')→To C (Jp σ s.ρ) (mem σ s.M) K
theorem Goes.trans{C:Cx}{s s' s'':St}{K K' K'':Act→wD→Prop}(hk:s.k≤s'.k)(h:Goes C s s' K' K)(h':Goes C s' s'' K'' K'):Goes C s s'' K'' K:=
 fun σ k=>h σ fun σ' he=>h' σ' fun σ'' he'=>k σ'' (Sup.trans hk he he')
theorem mO:∀Γ:List Ad,Vf Γ (List.replicate Γ.length 0)=some (Γ,[])
 |[]=>rfl
 | c::Γ=>by
   have h:=mO Γ;simp only[bi,List.replicate_succ];unfold Vf;simp[h]
section
variable{P:pG}{S:Same P}{F:Ps}{o:Oper}{s s':St}{σ:Nat→Nat}{v:AV}{ops:Array Oper}{C:Cx}{Q:Exit→Act→wD→Prop}{rest:List Oper}{d:Nat}
theorem Kr{ρ:Dq}{b:Bool}(h:YU ops ρ o=some b):grd ops (Jp σ ρ) o=some b:=by
 unfold YU at h;unfold grd;cases hg:o.guard with
 |none=>rw[hg]at h;exact h
 | some p=>
   obtain⟨j,q⟩:=p;rw[hg]at h;simp only at h⊢;split at h
   · rename_i p hp
     split at h
     · rename_i d hd
       split at h
       · rename_i c hl
         simp only[hp,Option.bind_some,hd,Qa σ hl,val];exact h
       · rename_i hl
         simp only[hp,Option.bind_some,hd,Qa σ hl,val];exact h
       ·cases h
     ·cases h
   ·cases h
theorem Gc{k:Nat}{ρ:Dq}(hv:bel k v)(h:Rk k ρ):Rk k ((d,v)::ρ):=fun p hp=>by
 rcases aPi.1 hp with rfl|hp
 ·exact hv
 ·exact h p hp
theorem Ti{k k':Nat}(hk:k≤k'){ρ:Dq}(h:Rk k ρ):Rk k' ρ:=fun p hp=>uT hk _ (h p hp)
theorem mem_append{M N:List MC}:mem σ (M++N)=mem σ M++mem σ N:=by unfold mem;rw[aPn]
theorem Ox{ρ:Dq}:Jp σ ((d,v)::ρ)=(d,val σ v)::Jp σ ρ:=rfl
theorem TE(hF:Nu P F)(hs:s.Good)(h:TC S F C.n ops o s=some s'):s'.Good∧s.k≤s'.k∧Goes C s s' (wpList P ops Q rest) (wpList P ops Q (o::rest)):=by
 obtain⟨hbig,hsl,hme⟩:=hs;unfold TC at h;split at h
 ·cases h
 · rename_i hg
   split at h
   · rename_i d hd
     cases hn:Nat.blt d C.n with
     |false=>rw[hn]at h;cases h
     | true=>
       rw[hn]at h;cases h;exact⟨⟨hbig,Gc (by simp only[bel]) hsl,hme⟩,aPl _,fun σ k=>Jsk (Kr hg) hd hn (k σ fun _ _=>rfl)⟩
   ·cases h
 · rename_i hg
   split at h
   · rename_i r hr
     have hok:=Ye hbig hsl hme hr;unfold YV at h;split at h
     · split at h
       · rename_i d hd
         cases hn:Nat.blt d C.n with
         |false=>rw[hn]at h;cases h
         | true=>
           rw[hn]at h;cases h;exact⟨⟨hbig,Gc hok.1 hsl,hme⟩,aPl _,fun σ k=>To.rd (Kr hg) hd hn (hok.2 σ) (k σ fun _ _=>rfl)⟩
       ·cases h
     · split at h
       ·cases h
       · rename_i hd
         cases h;exact⟨⟨hbig,hsl,hok.1⟩,aPl _,fun σ k=>Jup (Kr hg) hd (hok.2 σ) (k σ fun _ _=>rfl)⟩
     · rename_i v N k'
       obtain⟨h1,h2,h3,h4⟩:=hok;split at h
       · rename_i d hd
         cases hn:Nat.blt d C.n with
         |false=>rw[hn]at h;cases h
         | true=>
           rw[hn]at h;cases h;refine⟨⟨aRk hbig h1,Gc h2 (Ti h1 hsl),Ho h3 (Pj h1 hme)⟩,h1,fun σ k=>Jmk (Kr hg) hd hn (h4 σ) ?_⟩;rintro _ _ ⟨σ',he,rfl,rfl⟩;have:=k σ' he;rw[mem_append,←Ma he hme,Ox,←Qo he hsl]at this;exact this
       ·cases h
     · rename_i v M' k'
       obtain⟨h1,h2,h3,h4⟩:=hok;split at h
       · rename_i d hd
         cases hn:Nat.blt d C.n with
         |false=>rw[hn]at h;cases h
         | true=>
           rw[hn]at h;cases h;refine⟨⟨aRk hbig h1,Gc h2 (Ti h1 hsl),h3⟩,h1,fun σ k=>Jge (Kr hg) hd hn (h4 σ) ?_⟩;rintro _ _ ⟨σ',he,rfl,rfl⟩;have:=k σ' he;rw[Ox,←Qo he hsl]at this;exact this
       ·cases h
   · split at h
     · rename_i f vs d he hd
       split at h
       · rename_i v M' k' hf
         cases hn:Nat.blt d C.n with
         |false=>rw[hn]at h;cases h
         | true=>
           rw[hn]at h;cases h;have hk:=hF _ _ _ _ _ _ _ hf hbig (dG hbig hsl he) hme;refine⟨⟨aRk hbig hk.le,Gc hk.bval (Ti hk.le hsl),hk.bmem⟩,hk.le,fun σ k=>?_⟩;refine Jcl _ (Kr hg) hd hn (jQ he σ) (mO _) (hk.does σ) ?_;rintro _ _ ⟨σ',he',rfl,rfl⟩;have:=k σ' he';rw[Ox,←Qo he' hsl]at this;rw[aPw];exact this
       ·cases h
     ·cases h
theorem JJ(hF:Nu P F):∀(l:List Oper) (s s':St),TD S F C.n ops l s=some s'→s.Good→s'.Good∧s.k≤s'.k∧Goes C s s' (Q .normal) (wpList P ops Q l)
 | [],s,s',h,hs=>by
   simp only[TD,aPt]at h;subst h;exact⟨hs,aPl _,fun σ k=>Jn (k σ fun _ _=>rfl)⟩
 | o ::r,s,s',h,hs=>by
   unfold TD at h;split at h
   · rename_i s1 h1
     obtain⟨g1,g2,g3⟩:=TE (Q:=Q) (rest:=r) hF hs h1;obtain⟨a,b,c⟩:=JJ hF r s1 s' h g1;exact⟨a,aRk g2 b,Goes.trans g2 g3 c⟩
   ·cases h
end
mutual
def eqV:AV→AV→Bool
 | .bool a, .bool b=>a==b
 | .int k m, .int k' n=>xU k k'&&decide (m=n)
 | .str a, .str b=>eqL a b
 | .ptr i q, .ptr j r=>Nat.beq i j&&Nat.beq q r
 | .nilp, .nilp=>true
 | .sl a b c d, .sl e f g h=>Nat.beq a e&&Nat.beq b f&&Nat.beq c g&&Nat.beq d h
 | .slu a b c d x, .slu e f g h y=>Nat.beq a e&&Nat.beq b f&&Nat.beq c g&&Nat.beq d h&&Nat.beq x y
 | .nils, .nils=>true
 | .mp i, .mp j=>Nat.beq i j
 | .nilm, .nilm=>true
 | .nilf, .nilf=>true
 | .nili, .nili=>true
 | .und, .und=>true
 | .fn f a b, .fn g c d=>Nat.beq f g&&jD a c&&jD b d
 | .ifc t v, .ifc u w=>Nat.beq t u&&eqV v w
 | .agg a, .agg b=>jD a b
 | .tup a, .tup b=>jD a b
 |_,_=>false
def jD:List AV→List AV→Bool
 |[],[]=>true
 |a::x,b::y=>eqV a b&&jD x y
 |_,_=>false
def eqL:List Nat→List Nat→Bool
 |[],[]=>true
 |a::x,b::y=>Nat.beq a b&&eqL x y
 |_,_=>false
end
theorem vF:∀{a b:List Nat},eqL a b=true→a=b
 |[],[],_=>rfl
 |[],_::_,h=>by simp[eqL]at h
 |_::_,[],h=>by simp[eqL]at h
 |a::x,b::y,h=>by simp only[eqL,aPk]at h;rw[aPp h.1,vF h.2]
mutual
theorem gD:∀(a b:AV),eqV a b=true→a=b
 | .bool _,b,h=>by cases b<;>simp[eqV]at h;rw[h]
 | .int _ _,b,h=>by
   cases b<;>simp[eqV,xU]at h;rw[h.1,h.2]
 | .str _,b,h=>by cases b<;>simp[eqV]at h;rw[vF h]
 | .ptr _ _,b,h=>by
   cases b<;>simp[eqV]at h;rw[h.1,h.2]
 | .nilp,b,h=>by cases b<;>simp[eqV]at h;rfl
 | .sl _ _ _ _,b,h=>by
   cases b<;>simp[eqV]at h;rw[h.1.1.1,h.1.1.2,h.1.2,h.2]
 | .slu _ _ _ _ _,b,h=>by
   cases b<;>simp[eqV]at h;rw[h.1.1.1.1,h.1.1.1.2,h.1.1.2,h.1.2,h.2]
 | .nils,b,h=>by cases b<;>simp[eqV]at h;rfl
 | .mp _,b,h=>by cases b<;>simp[eqV]at h;rw[h]
 | .nilm,b,h=>by cases b<;>simp[eqV]at h;rfl
 | .nilf,b,h=>by cases b<;>simp[eqV]at h;rfl
 | .nili,b,h=>by cases b<;>simp[eqV]at h;rfl
 | .und,b,h=>by cases b<;>simp[eqV]at h;rfl
 | .fn _ x y,b,h=>by
   cases b<;>simp[eqV]at h;rw[h.1.1,Vo x _ h.1.2,Vo y _ h.2]
 | .ifc _ v,b,h=>by
   cases b<;>simp[eqV]at h;rw[h.1,gD v _ h.2]
 | .agg x,b,h=>by
   cases b<;>simp[eqV]at h;rw[Vo x _ h]
 | .tup x,b,h=>by
   cases b<;>simp[eqV]at h;rw[Vo x _ h]
theorem Vo:∀(a b:List AV),jD a b=true→a=b
 |[],b,h=>by cases b<;>simp[jD]at h;rfl
 | v ::x,b,h=>by
   cases b with
   |nil=>simp[jD]at h
   | cons w y=>
     simp only[jD,aPk]at h;rw[gD v w h.1,Vo x y h.2]
end
def eqK:MK→MK→Bool
 | .box t, .box u=>Nat.beq t u
 | .row a b c d, .row e f g h=>Nat.beq a e&&Nat.beq b f&&Nat.beq c g&&MX d h
 | .ro, .ro=>true
 |_,_=>false
theorem TF{a b:MK}(h:eqK a b=true):a=b:=by
 cases a<;>cases b<;>first|(cases h;done)|(simp[eqK]at h)
 ·rw[h]
 ·rw[h.1.1.1,h.1.1.2,h.1.2,JH h.2]
 ·rfl
def thB:List MC→List MC→Bool
 |[],_=>true
 | c::r,M=>(match find M c.i with
   |some (_,b)=>eqK c.kd b.kd&&jD c.cs b.cs
   |none=>false)&&thB r M
def News:=List (Nat×List MC)
def Wv(N:List (Nat×List MC)):List MC:=N.flatMap (·.2)
def Uc(N:List (Nat×List MC))(deps:List Nat):List MC:=N.flatMap fun n=>bif deps.any (Nat.beq n.1)then n.2 else []
def Pv(σ:Nat→Nat)(N:List (Nat×List MC)):Sep.News:=N.map fun n=>(n.1,mem σ n.2)
def roM:List MC→List MC
 |[]=>[]
 | c::r=>match Qb c with
   |some cs=>⟨c.i, .ro,cs⟩::roM r
   |none=>roM r
def TG(c:MC):Bool:=
 match c.kd with
 | .ro=>true
 |_=>false
def TH(k:Nat)(M:List MC):List MC:=M.filter fun c=>Nat.ble k c.i&& !TG c
mutual
def gF(k:Nat):AV→Bool
 | .ptr i _=>Nat.blt i k
 | .sl i _ _ _=>Nat.blt i k
 | .slu i _ _ c _=>Nat.blt i k&&Nat.blt c k
 | .mp i=>Nat.blt i k
 | .fn _ a b=>dH k a&&dH k b
 | .ifc _ v=>gF k v
 | .agg l=>dH k l
 | .tup l=>dH k l
 |_=>true
def dH(k:Nat):List AV→Bool
 |[]=>true
 |v::l=>gF k v&&dH k l
end
mutual
theorem vG{k:Nat}:∀(v:AV),gF k v=true→bel k v
 | .ptr _ _,h=>by simp only[gF]at h;simp only[bel];exact aPd h
 | .sl _ _ _ _,h=>by simp only[gF]at h;simp only[bel];exact aPd h
 | .slu _ _ _ _ _,h=>by simp only[gF,aPk]at h;simp only[bel];exact⟨aPd h.1,aPd h.2⟩
 | .mp _,h=>by simp only[gF]at h;simp only[bel];exact aPd h
 | .fn _ a b,h=>by simp only[gF,aPk]at h;simp only[bel];exact⟨Qs a h.1,Qs b h.2⟩
 | .ifc _ v,h=>by simp only[gF]at h;simp only[bel];exact vG v h
 | .agg l,h=>by simp only[gF]at h;simp only[bel];exact Qs l h
 | .tup l,h=>by simp only[gF]at h;simp only[bel];exact Qs l h
 | .bool _,_=>by simp only[bel]
 | .int _ _,_=>by simp only[bel]
 | .str _,_=>by simp only[bel]
 | .nilp,_=>by simp only[bel]
 | .nils,_=>by simp only[bel]
 | .nilm,_=>by simp only[bel]
 | .nilf,_=>by simp only[bel]
 | .nili,_=>by simp only[bel]
 | .und,_=>by simp only[bel]
theorem Qs{k:Nat}:∀(l:List AV),dH k l=true→Es k l
 |[],_=>by simp only[Es]
 |v::l,h=>by simp only[dH,aPk]at h;simp only[Es];exact⟨vG v h.1,Qs l h.2⟩
end
structure FS where
 ρ:Dq
 M:List MC
 N:List (Nat×List MC)
 k:Nat
def dI(i:Nat):List (Nat×List MC)→Bool
 |[]=>true
 |n::r=> !Nat.beq n.1 i&&dI i r
def TI {P:pG}(S:Same P)(F:Ps)(n:Nat)(l:List Oper)(Th:List MC)(m:Ez)(s:FS):oP FS:=
 match l[m.i]? with
 |none=>none
 | some o=>match YU l.toArray s.ρ o with
   |none=>none
   | some false=>match o.dst with
     | some d=>bif Nat.blt d n then(match m.kind with
       |0=>some ⟨(d, .und)::s.ρ,s.M,s.N,s.k⟩
       |1=>some ⟨(d, .und)::s.ρ,s.M,s.N,s.k⟩
       |2=>bif dI m.i s.N then some ⟨(d, .und)::s.ρ,s.M,(m.i,[])::s.N,s.k⟩else none
       |3=>some ⟨(d, .und)::s.ρ,s.M,s.N,s.k⟩
       |_=>none)else none
     |none=>none
   | some true=>match m.kind with
     | 0=>match o.dst,mM S s.k s.ρ Th o with
       |some d,some (.val v)=>bif Nat.blt d n then some ⟨(d,v)::s.ρ,s.M,s.N,s.k⟩else none
       |_,_=>none
     | 1=>match o.dst,mM S s.k s.ρ (Uc s.N m.deps++s.M) o with
       |some d,some (.val v)=>bif Nat.blt d n then some ⟨(d,v)::s.ρ,s.M,s.N,s.k⟩else none
       |_,_=>none
     | 2=>match o.dst,mM S s.k s.ρ (Uc s.N m.deps++s.M) o with
       |some d,some (.mk v N k')=>bif Nat.blt d n&&dI m.i s.N then some ⟨(d,v)::s.ρ,s.M,(m.i,N)::s.N,k'⟩else none
       |_,_=>none
     | 3 =>match o.dst,yG P s.ρ o.op with
       | some d,some (f,vs)=>match F f vs (roM (Uc s.N m.deps++s.M)) s.k with
         |some (v,_,_)=>bif Nat.blt d n&&gF s.k v then some ⟨(d,v)::s.ρ,s.M,s.N,s.k⟩else none
         |none=>none
       |_,_=>none
     | 4 =>match o.dst,yG P s.ρ o.op with
       | some d,some (f,vs)=>match F f vs (roM (Uc s.N m.deps++s.M)) s.k with
         |some (v,M',k')=>bif Nat.blt d n&&dI m.i s.N&&o.guard.isNone then some ⟨(d,v)::s.ρ,s.M,(m.i,TH s.k M')::s.N,k'⟩else none
         |none=>none
       |_,_=>none
     | 5 =>bif o.guard.isNone then(match mM S s.k s.ρ (Wv s.N++s.M) o with
       | some r=>match YV n o.dst ⟨s.ρ,Wv s.N++s.M,s.k⟩ r with
         |some s'=>bif thB Th s'.M then some ⟨s'.ρ,s'.M,[],s'.k⟩else none
         |none=>none
       | none=>match yG P s.ρ o.op,o.dst with
         | some (f,vs),some d=>match F f vs (Wv s.N++s.M) s.k with
           |some (v,M',k')=>bif Nat.blt d n&&thB Th M' then some ⟨(d,v)::s.ρ,M',[],k'⟩else none
           |none=>none
         |_,_=>none)else none
     |_=>none
def yH{P:pG}(S:Same P)(F:Ps)(n:Nat)(l:List Oper)(Th:List MC):List Ez→FS→oP FS
 |[],s=>some s
 | m::r,s=>match TI S F n l Th m s with
   |some s'=>yH S F n l Th r s'
   |none=>none
structure FS.Good(s:FS):Prop where
 big:4096≤s.k
 sl:Rk s.k s.ρ
 me:Lm s.k s.M
 nw:Lm s.k (Wv s.N)
section
variable{P:pG}{S:Same P}{F:Ps}{C:Cx}{σ σ':Nat→Nat}{l:List Oper}{Th M M':List MC}{N:List (Nat×List MC)}{m:Ez}{ms:List Ez}{s s':FS}{k k':Nat}{Q:Act→wD→Prop}{v:AV}
theorem mP:flat (Pv σ N)=mem σ (Wv N):=by
 induction N with
 |nil=>rfl
 | cons n N ih=>
   show mem σ n.2++flat (Pv σ N)=mem σ (n.2++Wv N);rw[ih,mem_append]
theorem Tk{deps:List Nat}:avail (Pv σ N) deps=mem σ (Uc N deps):=by
 induction N with
 |nil=>rfl
 | cons n N ih=>
   show(bif deps.any (Nat.beq n.1)then mem σ n.2 else [])++avail (Pv σ N) deps=mem σ ((bif deps.any (Nat.beq n.1)then n.2 else [])++Uc N deps);rw[ih,mem_append];cases deps.any (Nat.beq n.1)<;>rfl
theorem Vp{deps:List Nat}(h:Lm k (Wv N)):Lm k (Uc N deps):=fun c hc=>by
 unfold Uc at hc;obtain⟨n,hn,hc⟩:=aQe.1 hc;cases hd:deps.any (Nat.beq n.1)with
 |false=>rw[hd]at hc;cases hc
 |true=>rw[hd]at hc;exact h c (aQe.2 ⟨n,hn,hc⟩)
theorem rJ(he:Sup k σ σ')(h:Lm k (Wv N)):Pv σ N=Pv σ' N:=by
 unfold Pv;refine List.map_congr_left fun n hn=>?_;rw[Ma he fun c hc=>h c (aQe.2 ⟨n,hn,hc⟩)]
theorem mQ{i:Nat}(h:dI i N=true):(Pv σ N).all (fun m=> !Nat.beq m.1 i)=true:=by
 induction N with
 |nil=>rfl
 | cons n N ih=>
   simp only[dI,aPk]at h;show(!Nat.beq n.1 i&&(Pv σ N).all _)=true;rw[ih h.2,h.1];rfl
theorem vH:∀{Th M:List MC},thB Th M=true→∀c∈Th,c∈M
 |[],_,_,c,hc=>by cases hc
 | d :: r,M,h,c,hc=>by
   simp only[thB,aPk]at h;rcases aPi.1 hc with rfl|hc
   · have h1:=h.1
     split at h1
     · rename_i j b hf
       rw[aPk]at h1;have e1:=TF h1.1;have e2:=Vo _ _ h1.2;have e3:=(Kq hf).2;have:c=b:=by
        obtain⟨i,kd,cs⟩:=c;obtain⟨i',kd',cs'⟩:=b;simp only at e1 e2 e3;subst e1 e2 e3;rfl
       rw[this];exact Qp hf
     ·cases h1
   ·exact vH h.2 c hc
theorem Vq(h:thB Th M=true):∀w,oks (mem σ M) w→oks (mem σ Th) w:=fun w hw c hc=>by
 obtain⟨d,hd,rfl⟩:=aPx.1 hc;exact hw _ (List.mem_map_of_mem (vH h d hd))
theorem yI:owns (mem σ (roM M))=[]:=by
 induction M with
 |nil=>rfl
 | cons c M ih=>
   unfold roM;split
   · rename_i cs _
     show owns (ck σ ⟨c.i, .ro,cs⟩::mem σ (roM M))=[];show(ck σ ⟨c.i, .ro,cs⟩).owns++owns (mem σ (roM M))=[];rw[ih];rfl
   ·exact ih
theorem TJ{c:MC}{cs:List AV}(h:Qb c=some cs){w:wD}(hw:(ck σ c).holds w):(ck σ ⟨c.i, .ro,cs⟩).holds w:=by
 obtain⟨i,kd,cs'⟩:=c;unfold Qb at h;unfold ck at hw⊢;cases kd with
 |box t=>cases h;exact .inr ⟨_,0,rfl,Je hw⟩
 | row e size n c=>
   cases h;obtain⟨A',cap',h1,h2,_⟩:=Il hw;simp only[Value.slice.injEq]at h1;show Src w (some ⟨bl σ i,0,none⟩) _;rw[h1.1];exact h2
 |ro=>cases h;exact hw
 |maps m=>cases h
theorem vI{w:wD}(h:oks (mem σ M) w):oks (mem σ (roM M)) w:=by
 induction M with
 |nil=>exact h
 | cons c M ih=>
   have h1:(ck σ c).holds w:=h _ (aPc ..);have h2:=ih fun d hd=>h d (aPb _ hd);unfold roM;split
   · rename_i cs hc
     intro d hd;rcases aPi.1 (show d∈ck σ ⟨c.i, .ro,cs⟩::mem σ (roM M)from hd)with rfl|hd
     ·exact TJ hc h1
     ·exact h2 d hd
   ·exact h2
theorem JK(h:Lm k M):Lm k (roM M):=by
 induction M with
 |nil=>exact h
 | cons c M ih=>
   have h1:=h c (aPc ..);have h2:=ih fun d hd=>h d (aPb _ hd);unfold roM;split
   · rename_i cs hc
     exact MJ ⟨h1.pl,trivial,aR hc h1⟩ h2
   ·exact h2
theorem EN:reads (mem σ (TH k M))=[]:=by
 unfold TH
 induction M with
 |nil=>rfl
 | cons c M ih=>
   rw[List.filter_cons];split
   · rename_i hc
     show(ck σ c).reads++reads (mem σ (List.filter _ M))=[];rw[ih];simp only[aPk,Bool.not_eq_true']at hc;obtain⟨i,kd,cs⟩:=c;unfold ck;cases kd<;>first|rfl|(simp[TG]at hc)
   ·exact ih
theorem yJ{M M':List MC}(h:M.Perm M'):(mem σ M).Perm (mem σ M'):=h.map _
theorem gG{f:FuncId}{vs:List vU}{Γ:List Ad}{v:AV}{p:MC→Bool}(h:Bg P f vs Γ (jC k σ v M)):Bg P f vs Γ (jC k σ v (M.filter p)):=fun w hs=>
 (h w hs).mono fun e w' ⟨u,Γ',h1,⟨σ',h2,h3,h4⟩,h5⟩=>by
  refine⟨u,mem σ' (M.filter p),h1,⟨σ',h2,h3,rfl⟩,?_⟩;subst h4;have hp:(mem σ' M).Perm (mem σ' (M.filter p)++mem σ' (M.filter fun c=> !p c)):=by
   rw[←mem_append];exact yJ (List.filter_append_perm p M).symm
  exact(h5.perm hp).drop
theorem Yf{p:MC→Bool}(h:Lm k M):Lm k (M.filter p):=fun c hc=>h c (aSd.1 hc).1
theorem YW{o:Oper}{ρ:Bo}{Γ:List Ad}{u:vU}(h:Rd P o ρ Γ u):Ge P o ρ Γ (fun v Γ'=>v=u∧Γ'=Γ):=fun a w ha hs=>⟨_,_,w,h a w ha hs.each,⟨rfl,rfl⟩,Dk.refl hs⟩
theorem YX{o:Oper}{ρ:Bo}{Γ:List Ad}{R:vU→List Ad→Prop}(h:Mk P o ρ Γ R):Ge P o ρ Γ (fun v Γ'=>∃N,R v N∧Γ'=N++Γ):=fun a w ha hs=>by
 obtain⟨v,N,w',h1,h2,h3⟩:=h a w ha hs.each;exact⟨v,_,w',h1,⟨N,h2,rfl⟩,h3.add hs⟩
theorem TK (hF :Nu P F)(hs:s.Good)(hT:Lm s.k Th)(h:TI S F C.n l Th m s=some s'):s'.Good∧s.k≤s'.k∧∀σ,
    (∀σ',Sup s.k σ σ'→Ea P noT l (mem σ' Th) Q ms C (Jp σ' s'.ρ) (mem σ' s'.M) (Pv σ' s'.N))→Ea P noT l (mem σ Th) Q (m::ms) C (Jp σ s.ρ) (mem σ s.M) (Pv σ s.N):=by
 obtain⟨hbig,hsl,hme,hnw⟩:=hs;obtain⟨i,deps,kd⟩:=m;unfold TI at h;simp only at h;split at h
 ·cases h
 · rename_i o ho
   split at h
   ·cases h
   -- barred by its guard
   · rename_i hg
     split at h
     · rename_i d hd
       cases hn:Nat.blt d C.n with
       |false=>rw[hn]at h;cases h
       | true=>
         rw[hn]at h;simp only[aQw]at h;split at h
         · cases h
           exact⟨⟨hbig,Gc (by simp only[bel]) hsl,hme,hnw⟩,aPl _,fun σ k=>Fw.skip (.inl rfl) ho (Kr hg) hd hn (k σ fun _ _=>rfl)⟩
         · cases h
           exact⟨⟨hbig,Gc (by simp only[bel]) hsl,hme,hnw⟩,aPl _,fun σ k=>Fw.skip (.inr (.inl rfl)) ho (Kr hg) hd hn (k σ fun _ _=>rfl)⟩
         · cases hni:dI i s.N with
           |false=>rw[hni]at h;cases h
           | true=>
             rw[hni]at h;cases h;exact⟨⟨hbig,Gc (by simp only[bel]) hsl,hme,hnw⟩,aPl _,fun σ k=>RI ho (Kr hg) hd hn (mQ hni) (k σ fun _ _=>rfl)⟩
         · cases h
           exact⟨⟨hbig,Gc (by simp only[bel]) hsl,hme,hnw⟩,aPl _,fun σ k=>Fw.skip (.inr (.inr rfl)) ho (Kr hg) hd hn (k σ fun _ _=>rfl)⟩
         ·cases h
     ·cases h
   · rename_i hg
     split at h
     -- kind 0
     · split at h
       · rename_i d v hd hr
         cases hn:Nat.blt d C.n with
         |false=>rw[hn]at h;cases h
         | true=>
           rw[hn]at h;cases h;have hok:=Ye hbig hsl hT hr;exact⟨⟨hbig,Gc hok.1 hsl,hme,hnw⟩,aPl _,fun σ k=>Oi ho (Kr hg) hd hn (hok.2 σ) (k σ fun _ _=>rfl)⟩
       ·cases h
     -- kind 1
     · split at h
       · rename_i d v hd hr
         cases hn:Nat.blt d C.n with
         |false=>rw[hn]at h;cases h
         | true=>
           rw[hn]at h;cases h;have hok:=Ye hbig hsl (Ho (Vp hnw) hme) hr;refine⟨⟨hbig,Gc hok.1 hsl,hme,hnw⟩,aPl _,fun σ k=>Fw.rd ho (Kr hg) hd hn ?_ (k σ fun _ _=>rfl)⟩;rw[Tk,←mem_append];exact hok.2 σ
       ·cases h
     -- kind 2
     · split at h
       · rename_i d v N k' hd hr
         cases hn:(Nat.blt d C.n&&dI i s.N)with
         |false=>rw[hn]at h;cases h
         | true=>
           rw[hn]at h;cases h;rw[aPk]at hn;obtain⟨h1,h2,h3,h4⟩:=Ye hbig hsl (Ho (Vp hnw) hme) hr;refine⟨⟨aRk hbig h1,Gc h2 (Ti h1 hsl),Pj h1 hme,Ho h3 (Pj h1 hnw)⟩,h1,fun σ k=>?_⟩;have hmk:=h4 σ;rw[mem_append,←Tk]at hmk;refine aFp ho (Kr hg) hd hn.1 (mQ hn.2) hmk ?_;rintro _ _ ⟨σ',he,rfl,rfl⟩;have:=k σ' he;rw[Ox,←Qo he hsl,←Ma he hme,←Ma he hT]at this;have e1:Pv σ' ((i,N)::s.N)=(i,mem σ' N)::Pv σ s.N:=by rw[rJ he hnw];rfl
           rw[e1]at this;exact this
       ·cases h
     -- kind 3
     · split at h
       · rename_i d f vs hd he
         split at h
         · rename_i v M' k' hf
           cases hn:(Nat.blt d C.n&&gF s.k v)with
           |false=>rw[hn]at h;cases h
           | true=>
             rw[hn]at h;cases h;rw[aPk]at hn;have hbv:=vG v hn.2;have hA:=Ho (Vp (deps:=deps) hnw) hme;have hk:=hF _ _ _ _ _ _ _ hf hbig (dG hbig hsl he) (JK hA);refine⟨⟨hbig,Gc hbv hsl,hme,hnw⟩,aPl _,fun σ k=>?_⟩;refine bQ (Γ1:=mem σ (roM (Uc s.N deps++s.M))) ho (Kr hg) hd hn.1 (jQ he σ) (Bg.mono (hk.does σ) ?_) yI (fun w hw=>vI ?_) (k σ fun _ _=>rfl)
             · rintro _ _ ⟨σ',he',rfl,_⟩
               exact(Zf (fun i hi=>he' i hi) v hbv).symm
             ·rw[mem_append,←Tk];exact hw
         ·cases h
       ·cases h
     -- kind 4
     · split at h
       · rename_i d f vs hd he
         split at h
         · rename_i v M' k' hf
           cases hn:(Nat.blt d C.n&&dI i s.N&&o.guard.isNone)with
           |false=>rw[hn]at h;cases h
           | true=>
             rw[hn]at h;cases h;simp only[aPk,Option.isNone_iff_eq_none]at hn;obtain⟨⟨n1,n2⟩,n3⟩:=hn;have hA:=Ho (Vp (deps:=deps) hnw) hme;have hk:=hF _ _ _ _ _ _ _ hf hbig (dG hbig hsl he) (JK hA);refine⟨⟨aRk hbig hk.le,Gc hk.bval (Ti hk.le hsl),Pj hk.le hme,Ho (Yf hk.bmem) (Pj hk.le hnw)⟩,hk.le,fun σ k=>?_⟩;refine Dy (Γ1:=mem σ (roM (Uc s.N deps++s.M))) ho n3 hd n1 (mQ n2) (jQ he σ) (gG (p:=fun c=>Nat.ble s.k c.i&& !TG c) (hk.does σ)) yI (fun w hw=>vI (by rw[mem_append,←Tk];exact hw)) ?_;rintro _ _ ⟨σ',he',rfl,rfl⟩;refine⟨EN,?_⟩;have:=k σ' he';rw[Ox,←Qo he' hsl,←Ma he' hme,←Ma he' hT]at this;have e1:Pv σ' ((i,TH s.k M')::s.N)=(i,mem σ' (TH s.k M'))::Pv σ s.N:=by rw[rJ he' hnw];rfl
             rw[e1]at this;exact this
         ·cases h
       ·cases h
     -- kind 5
     · cases hgn : o.guard.isNone with
       |false=>rw[hgn]at h;cases h
       | true=>
         rw[hgn]at h;simp only[aQw]at h;have hg0:=Option.isNone_iff_eq_none.1 hgn;have hA:=Ho hnw hme;have eA:∀σ,mem σ (Wv s.N++s.M)=flat (Pv σ s.N)++mem σ s.M:=fun σ=>by rw[mem_append,mP]
         split at h
         · rename_i r hr
           have hok:=Ye hbig hsl hA hr;split at h
           · rename_i s1 hp
             cases hth:thB Th s1.M with
             |false=>rw[hth]at h;cases h
             | true=>
               rw[hth]at h;cases h;unfold YV at hp;split at hp
               · split at hp
                 · rename_i d hd
                   cases hn:Nat.blt d C.n with
                   |false=>rw[hn]at hp;cases hp
                   | true=>
                     rw[hn]at hp;cases hp;refine⟨⟨hbig,Gc hok.1 hsl,hA,fun c hc=>by cases hc⟩,aPl _,fun σ k=>?_⟩;have hge:=YW (hok.2 σ);rw[eA]at hge;refine Fw.ge ho hg0 hd hn hge ?_;rintro _ _ ⟨rfl,rfl⟩;have:=k σ fun _ _=>rfl;rw[eA]at this;exact⟨fun w hw=>Vq hth w (by rw[eA];exact hw),this⟩
                 ·cases hp
               · split at hp
                 ·cases hp
                 · rename_i hd
                   cases hp;refine⟨⟨hbig,hsl,hok.1,fun c hc=>by cases hc⟩,aPl _,fun σ k=>?_⟩;have hup:=hok.2 σ;rw[eA]at hup;exact dm ho hg0 hd hup (Vq hth) (k σ fun _ _=>rfl)
               · rename_i v N k'
                 obtain⟨h1,h2,h3,h4⟩:=hok;split at hp
                 · rename_i d hd
                   cases hn:Nat.blt d C.n with
                   |false=>rw[hn]at hp;cases hp
                   | true=>
                     rw[hn]at hp;cases hp;refine⟨⟨aRk hbig h1,Gc h2 (Ti h1 hsl),Ho h3 (Pj h1 hA),fun c hc=>by cases hc⟩,h1,fun σ k=>?_⟩;have hge:=YX (h4 σ);rw[eA]at hge;refine Fw.ge ho hg0 hd hn hge ?_;rintro _ _ ⟨_,⟨σ',he,rfl,rfl⟩,rfl⟩;have:=k σ' he;have e2:mem σ' (N++(Wv s.N++s.M))=mem σ' N++(flat (Pv σ s.N)++mem σ s.M):=by rw[mem_append,←Ma he hA,eA]
                     rw[Ox,←Qo he hsl,←Ma he hT,e2]at this;refine⟨fun w hw=>?_,this⟩;have:=Vq (σ:=σ') hth w (by rw[e2];exact hw);rw[←Ma he hT]at this;exact this
                 ·cases hp
               · rename_i v M' k'
                 obtain⟨h1,h2,h3,h4⟩:=hok;split at hp
                 · rename_i d hd
                   cases hn:Nat.blt d C.n with
                   |false=>rw[hn]at hp;cases hp
                   | true=>
                     rw[hn]at hp;cases hp;refine⟨⟨aRk hbig h1,Gc h2 (Ti h1 hsl),h3,fun c hc=>by cases hc⟩,h1,fun σ k=>?_⟩;have hge:=h4 σ;rw[eA]at hge;refine Fw.ge ho hg0 hd hn hge ?_;rintro _ _ ⟨σ',he,rfl,rfl⟩;have:=k σ' he;rw[Ox,←Qo he hsl,←Ma he hT]at this;refine⟨fun w hw=>?_,this⟩;have:=Vq (σ:=σ') hth w hw;rw[←Ma he hT]at this;exact this
                 ·cases hp
           ·cases h
         · split at h
           · rename_i f vs d he hd
             split at h
             · rename_i v M' k' hf
               cases hn:(Nat.blt d C.n&&thB Th M')with
               |false=>rw[hn]at h;cases h
               | true=>
                 rw[hn]at h;cases h;rw[aPk]at hn;have hk:=hF _ _ _ _ _ _ _ hf hbig (dG hbig hsl he) hA;refine⟨⟨aRk hbig hk.le,Gc hk.bval (Ti hk.le hsl),hk.bmem,fun c hc=>by cases hc⟩,hk.le,fun σ k=>?_⟩;have hdo:=hk.does σ;rw[eA]at hdo;refine Fw.call _ ho hg0 hd hn.1 (jQ he σ) (mO _) hdo ?_;rintro _ _ ⟨σ',he',rfl,rfl⟩;have:=k σ' he';rw[Ox,←Qo he' hsl,←Ma he' hT]at this;rw[aPw];refine⟨fun w hw=>?_,this⟩;have:=Vq (σ:=σ') hn.2 w hw;rw[←Ma he' hT]at this;exact this
             ·cases h
           ·cases h
     ·cases h
theorem yK(hF:Nu P F):∀(ms:List Ez) (s s':FS),s.Good→Lm s.k Th→yH S F C.n l Th ms s=some s'→s'.Good∧s.k≤s'.k∧∀σ,
    (∀σ',Sup s.k σ σ'→To C (Jp σ' s'.ρ) (mem σ' (Wv s'.N++s'.M)) Q)→Ea P noT l (mem σ Th) Q ms C (Jp σ s.ρ) (mem σ s.M) (Pv σ s.N)
 | [],s,s',hs,_,h=>by
   simp only[yH,aPt]at h;subst h;refine⟨hs,aPl _,fun σ k=>Fw.fin ?_⟩;have:=k σ fun _ _=>rfl;rw[mem_append,←mP]at this;exact this
 | m ::r,s,s',hs,hT,h=>by
   unfold yH at h;split at h
   · rename_i s1 h1
     obtain⟨g1,g2,g3⟩:=TK (Q:=Q) (ms:=r) hF hs hT h1;obtain⟨a,b,c⟩:=yK hF r s1 s' g1 (Pj g2 hT) h;exact⟨a,aRk g2 b,fun σ k=>g3 σ fun σ' he=>c σ' fun σ'' he'=>k σ'' (Sup.trans g2 he he')⟩
   ·cases h
end
end Go.In

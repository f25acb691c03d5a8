/- Own text. -/
import Derived.Test.YtihgdnjkofpgiaaGreatDoorAa
import Derived.Lib.AppendStr
import Derived.Lib.UnsafeStr
set_option linter.unusedVariables false
set_option linter.unusedSimpArgs false
namespace Go.In
open Go.RowKit Go.Flow Go.Mem Go.Sep
def DJ(P:pG)(t:tI):oP Nat:=
 match P.underlying t with
 | some (.slice e)=>match P.info? e with
   | some i=>match i.zero with
     |some (.int .u8 0)=>bif Nat.beq i.size 1&&Nat.beq i.bytes 1 then some e else none
     |_=>none
   |none=>none
 |_=>none
structure ByteSl(P:pG)(t e:tI):Prop where
 und:P.underlying t=some (.slice e)
 inf:∃i,P.info? e=some i∧i.zero=some (.int .u8 0)∧i.size=1∧i.bytes=1
theorem byteSl_ok{P:pG}{t:tI}{e:Nat}(h:DJ P t=some e):ByteSl P t e:=by
 unfold DJ at h;split at h
 · rename_i e' hu
   split at h
   · rename_i i hi
     split at h
     · rename_i hz
       cases hb:(Nat.beq i.size 1&&Nat.beq i.bytes 1)with
       |false=>rw[hb]at h;cases h
       | true=>
         rw[hb]at h;cases h;rw[aOc]at hb;exact⟨hu,i,hi,hz,aOg hb.1,aOg hb.2⟩
     ·cases h
   ·cases h
 ·cases h
section
variable{P:pG}{o:Oper}{ρ:Bj}{Γ:List Ad}{x y:Operand}{t u e:tI}
theorem Xe{w:wD}{ty:tI}(ht:ByteSl P t e)(hu:P.underlying u=some .string){v:vU}{n:Nat}{xs:List vU}(hown:w.ownsRow 0 e 1 v n xs)(s:yB)
    (hbytes:n+s.size≤140737488355328):
    ∃v' w',(Builtin.append_ #[t,u] ty #[v, .string s]).run P w= .ok v' w'∧w'.ownsRow 0 e 1 v' (n+s.size) (xs++Lib.strCells s)∧Fv (fun g=>v.ownBlock=some g) w w'∧
     ∀g,v'.ownBlock=some g→v.ownBlock=some g∨w.heap.size≤g:=by
 obtain⟨i,h2,h3,h4,h5⟩:=ht.inf;have h63:n+s.size≤maxLen:=by simp only[maxLen];omega
 have hk:∀w',w.grownBy w' v.ownBlock→w.drawn≤w'.drawn→Fv (fun g=>v.ownBlock=some g) w w':=fun w' h hd=>(Ol h hd).mono fun _ _ h=>h.symm;obtain⟨v',w',hr,g1,g2,_⟩:=Lib.run_append_own_string (P:=P) w 0 t u ty e i ht.und hu h2 h3 h4 h5 v n xs hown s h63 hbytes (aOk _);refine⟨v',w',hr,g1,hk w' g2 (run_drawn _ _ _ _ hr),fun g hg=>?_⟩;rcases hown.2 with⟨rfl,rfl⟩|⟨g0,cap,cur,rfl,hbg,hgg,hnc,hcm,hcs,htake⟩
 · have hxl:xs=[]:=aQd (by simpa using hown.1)
   subst hxl;obtain⟨v2,w2,hr2,q1,_,_⟩:=Lib.run_append_own_string (P:=P) w w.heap.size t u ty e i ht.und hu h2 h3 h4 h5 (.slice none 0 0) 0 [] (World.ownsRow_nil w _ e 1) s h63 hbytes (aOd _);rw[hr]at hr2;cases hr2;rcases q1.2 with⟨hv,_⟩|⟨g2,_,_,hv,hb,_⟩
   ·rw[hv]at hg;cases hg
   ·rw[hv]at hg;simp[Value.ownBlock]at hg;subst hg;exact .inr hb
 · by_cases hroom:n+s.size≤cap
   · have hcs':cur.size=cap:=by simpa using hcs
     have hr2:=Lib.run_append_room_string (P:=P) w t u ty e i ht.und hu h2 h4 g0 n cap cur hgg s hroom om;rw[hr]at hr2;cases hr2;exact .inl hg
   · have holds:∀j u,xs[j]?=some u→w.cell? ((⟨g0,0,none⟩:Addr).add j)=some u:=hown.cells (g:=g0) rfl
     have hr2:=Lib.run_append_grow_string (P:=P) w t u ty e i (.int .u8 0) ht.und hu h2 h3 ⟨g0,0,none⟩ n cap xs (by rw[h4];simpa using hown.1) holds s om om (by rw[h5];exact growslice_fits om om);rw[hr]at hr2;cases hr2;simp[Value.ownBlock]at hg;exact .inr om
theorem wZ{w:wD}{A:OA}{n cap:Nat}{g:Nat}(h:g∈Ik A):(Value.slice A n cap).ownBlock=some g:=by
 obtain⟨ad,rfl,rfl⟩:=Om.1 h;rfl
theorem Ge.appendStr{A:OA}{n cap i:Nat}{xs:List vU}{s:yB}(ho:o.op= .call {callee:= .builtin .append,args:=#[x,y],argTypes:=#[t,u]})(ht:ByteSl P t e)(hu:P.underlying u=some .string)
    (hx:ev ρ x=some (.slice A n cap)) (hy:ev ρ y=some (.string s)) (hi:Γ[i]?=some (row e 1 A n cap xs)) (hby:n+s.size≤140737488355328):
    Ge P o ρ Γ (fun v Γ'=>∃A' cap',v= .slice A' (n+s.size) cap'∧Γ'=Γ.set i (row e 1 A' (n+s.size) cap' (xs++Lib.strCells s))):=fun a w ha hs=>by
 have hrow:w.ownsRow 0 e 1 (.slice A n cap) n xs:=hs.each _ (sN hi);obtain⟨v',w',hrun,h7,h8,h9⟩:=Xe (ty:=o.type) ht hu hrow s hby
 obtain⟨A',cap',rfl,_⟩:=Im h7;refine⟨_,_,w',?_,⟨A',cap',rfl,rfl⟩,Db.set hi hs ⟨⟨fun c hc=>by rw[aNz.1 hc];exact h7,?_,by simp[reads,row]⟩,?_,?_,by simp[reads,row]⟩⟩
 · unfold execOp
   simp only[ho,resolve,invoke,builtin,aPg,aPp,aOy,List.map_toArray,aOw,aPq,ha.eval hx,ha.eval hy,hrun]
 ·cases A'<;>simp[owns,row,Ik]
 · refine h8.mono fun g _ hg=>?_
   cases A with
   |none=>simp[Value.ownBlock]at hg
   |some a'=>simp[Value.ownBlock]at hg;simp[owns,row,Ik,hg]
 · intro g hg hl
   have hg':g∈Ik A':=by simpa[owns,row]using hg
   rcases h9 g (wZ (w:=w) hg')with h|h
   · cases A with
     |none=>simp[Value.ownBlock]at h
     |some a'=>simp[Value.ownBlock]at h;simp[owns,row,Ik,h]
   ·omega
theorem Mk.appendStr{s:yB}(ho:o.op= .call {callee:= .builtin .append,args:=#[x,y],argTypes:=#[t,u]})(ht:ByteSl P t e)(hu:P.underlying u=some .string)
    (hx:ev ρ x=some (.slice none 0 0)) (hy:ev ρ y=some (.string s)) (hby:s.size≤140737488355328):
    Mk P o ρ Γ (fun v N=>∃A' cap',v= .slice A' s.size cap'∧N=[row e 1 A' s.size cap' (Lib.strCells s)]):=fun a w ha _=>by
 obtain⟨v',w',hrun,h7,h8,h9⟩:=Xe (ty:=o.type) ht hu (World.ownsRow_nil w 0 e 1) s om;rw[aOz,aQj]at h7;obtain⟨A',cap',rfl,_⟩:=Im h7;refine⟨_,_,w',?_,⟨A',cap',rfl,rfl⟩,⟨⟨fun c hc=>by rw[aNz.1 hc];exact h7,?_,by simp[reads,row]⟩,?_,?_,by simp[reads,row]⟩⟩
 · unfold execOp
   simp only[ho,resolve,invoke,builtin,aPg,aPp,aOy,List.map_toArray,aOw,aPq,ha.eval hx,ha.eval hy,hrun]
 ·cases A'<;>simp[owns,row,Ik]
 ·exact h8.mono fun _ _ h=>by simp[Value.ownBlock]at h
 · intro g hg hl
   have hg':g∈Ik A':=by simpa[owns,row]using hg
   rcases h9 g (wZ (w:=w) hg')with h|h
   ·simp[Value.ownBlock]at h
   ·omega
theorem Ge.unsafeStr{b n cap i:Nat}{l:List UInt8}{pt it:tI}(ho:o.op= .call {callee:= .builtin .unsafeString,args:=#[x,y],argTypes:=#[pt,it]})(hp:P.underlying pt=some (.pointer e))(hc:P.cellsOf e=1)
    (hx:ev ρ x=some (pv b)) (hy:ev ρ y=some (.int .i64 (n:Int))) (hi:Γ[i]?=some (row e 1 (some ⟨b,0,none⟩) n cap (l.map fun z=>Value.int .u8 z.toNat))) (hn:0<n) (hb:n≤140737488355328):
    Ge P o ρ Γ (fun v Γ'=>v= .string ⟨l.toArray⟩∧Γ'=Γ.eraseIdx i):=fun a w ha hs=>by
 have hrow:w.ownsRow 0 e 1 (.slice (some ⟨b,0,none⟩) n cap) n (l.map fun z=>Value.int .u8 z.toNat):=hs.each _ (sN hi);have hl:l.length=n:=by have:=hrow.1;simpa using this
 rcases hrow.2 with⟨hv,_⟩|⟨g,cap',cur,hv,_,hgg,hnc,hcm,hcs,htake⟩
 ·cases hv
 simp only[Value.slice.injEq,aOi,Addr.mk.injEq]at hv;obtain⟨⟨rfl,_⟩,_,rfl⟩:=hv;have hcell:∀j z,l[j]?=some z→w.cell? ((⟨b,0,none⟩:Addr).add j)=some (.int .u8 z.toNat):=fun j z hz=>
  hrow.cells (g:=b) rfl j _ (by rw[aOf,hz];rfl)
 have hrun:=Lib.run_unsafeString_row (P:=P) w pt it o.type e hp hc b cur.size (by simp[World.shape?,hgg]) l (by intro h;rw[h]at hl;simp at hl;omega) (by rw[hcs];omega) om hcell;rw[hl]at hrun;have hpm:=Jd hi;have hs2:=hs.perm hpm;have hrest:sat (Γ.eraseIdx i) w:=Sep.sat.right (Γ:=[_]) hs2;have hnb:∀g,g∈owns (Γ.eraseIdx i)∨g∈reads (Γ.eraseIdx i)→g≠b:=by
  intro g hg e0;subst e0;have hown:g∈owns [row e 1 (some ⟨g,0,none⟩) n cap (l.map fun z=>Value.int .u8 z.toNat)]:=by simp[owns,row,Ik]
  rcases hg with hg|hg
  · have:=hs2.nodup
    rw[show(row e 1 (some ⟨g,0,none⟩) n cap (l.map fun z=>Value.int .u8 z.toNat)::Γ.eraseIdx i)=[row e 1 (some ⟨g,0,none⟩) n cap (l.map fun z=>Value.int .u8 z.toNat)]++Γ.eraseIdx i from rfl,Dk]at this;exact(List.nodup_append.1 this).2.2 g hown g hg rfl
  ·exact hs2.apart g (by simp[reads,row];exact dm.1 hg) (by simp[owns,row,Ik])
 have hother:∀g,g≠b→(w.freeze ⟨b,0,none⟩ n).heap[g]?=w.heap[g]?:=fun g hg=>by
  unfold World.freeze;split
  ·rfl
  ·simp[Array.getElem?_modify,Ne.symm hg]
 have hsz:(w.freeze ⟨b,0,none⟩ n).heap.size=w.heap.size:=by
  unfold World.freeze;split<;>simp
 refine⟨_,_,w.freeze ⟨b,0,none⟩ n,?_,⟨rfl,rfl⟩,⟨⟨fun c hc=>?_,hrest.nodup,hrest.apart⟩,⟨?_,?_,?_,Nat.le_of_eq hsz.symm,fun g hg hn=>?_,?_⟩,fun g hg _=>?_,fun g hg _=>?_⟩⟩
 · unfold execOp
   simp only[ho,resolve,invoke,builtin,aPg,aPp,aOy,List.map_toArray,aOw,aPq,ha.eval hx,ha.eval hy,hrun]
 · refine c.loc w _ (fun g hg=>hother g (hnb g ?_)) (hrest.each c hc)
   exact hg.imp (fun h=>Ri.2 ⟨c,hc,h⟩) (fun h=>dm.2 ⟨c,hc,h⟩)
 ·unfold World.freeze;split<;>rfl
 ·unfold World.freeze;split<;>rfl
 ·unfold World.freeze;split<;>rfl
 · refine hother g fun e0=>hn ?_
   subst e0;exact(hpm.flatMap_right Ad.owns).mem_iff.2 (by simp[row,Ik])
 ·unfold World.freeze;split<;>exact aOd _
 ·exact(hpm.flatMap_right Ad.owns).mem_iff.2 (aQb _ hg)
 ·exact .inr ((hpm.flatMap_right Ad.reads).mem_iff.2 (aQb _ hg))
end
def bJ:Nat→Nat→List Nat→Bool
 |_,0,[]=>true
 |i,n+1,j::r=>bif Nat.beq i j then bJ (i+1) n r else false
 |_,_,_=>false
def bK:List AV→List AV
 |[]=>[]
 |v::r=>Lf v++bK r
def lL(zs:List AV):Nat→List AV
 |0=>[]
 |n+1=>zs++lL zs n
def mkA(P:pG)(k:Nat)(ρ:Dn):Op→oP Res
 | .alloc ty=>match eH P ty with
   |some zs=>some (.mk (.ptr k 0) [⟨k, .box ty,zs⟩] (k+1))
   |none=>none
 | .box ty x=>match aev ρ x with
   |some v=>some (.mk (.ptr k 0) [⟨k, .box ty,Lf v⟩] (k+1))
   |none=>none
 | .buildSlice t len parts=>match Ou P t,Us ρ parts.toList with
   |some s,some l=>bif Nat.beq len 0 then(bif parts.toList.isEmpty then some (.mk (.sl k 0 0 0) [⟨k, .row s.e s.size 0 (.kn 0),[]⟩] (k+1))else none)else bif bJ 0 len (l.map (·.1))&&Nat.blt 0 len&&Nat.ble (len*s.size) 16777216&&(l.map (·.2)).all (fun v=>Nat.beq (Lf v).length s.size)then
       some (.mk (.sl k 0 len len) [⟨k, .row s.e s.size len (.kn len),bK (l.map (·.2))⟩] (k+1))else none
   |_,_=>none
 | .makeSlice t x y=>match Ou P t,bG ρ x,bG ρ y with
   | some s,some n,some c=>bif Nat.beq n c then(bif Nat.ble (s.bytes*n) 16777216&&Nat.ble n 16777216 then
       some (.mk (.sl k 0 n n) [⟨k, .row s.e s.size n (.kn n),lL s.zs n⟩] (k+1))else none)
     else bif Nat.beq n 0&&Nat.ble (s.bytes*c) 16777216&&Nat.ble c 16777216 then some (.mk (.sl k 0 0 c) [⟨k, .row s.e s.size 0 (.kn c),[]⟩] (k+1))else none
   |_,_,_=>none
 | .makeMap _ none=>some (.mk (.mp k) [⟨k, .maps [],[]⟩] (k+1))
 |_=>none
def MB:AC→AC→Bool
 | .kn a, .kn b=>Nat.beq a b
 | .un a b, .un c d=>Nat.beq a c&&Nat.beq b d
 |_,_=>false
def RH(M:List MC)(size:Nat)(v:AV):oP (Nat×List AV):=
 match v with
 | .nils=>some (0,[])
 | v =>match slv v with
   | some (i,q,l,_)=>match find M i with
     | some (_,c)=>match Pi c with
       |some cs=>bif Nat.ble (q+l*size) cs.length then some (l,iJ cs q (l*size))else none
       |none=>none
     |none=>none
   |none=>none
def fresh:AV→Bool
 | .nils=>true
 | .sl _ _ 0 0=>true
 |_=>false
def qG(s:List Nat):List AV:=s.map fun b=> .int .u8 (Int.ofNat (b%256))
def IG(M:List MC)(v:AV)(e size:Nat):oP (Nat×Nat×Nat×AC×MC):=
 match slv v with
 | some (i,0,n,c)=>match find M i with
   | some (j,b)=>match b.kd with
     | .row e' size' n' c'=>bif Nat.beq e' e&&Nat.beq size' size&&Nat.beq n' n&&MB c' c then some (j,i,n,c,b)else none
     |_=>none
   |none=>none
 |_=>none
def aEu (P : pG)(k:Nat)(ρ:Dn)(M:List MC):Op→oP Res
 | .call c => match c.callee,c.args.toList,c.argTypes.toList with
   | .builtin .append,[x,y],[t,t']=>match aev ρ x,aev ρ y with
     | some v,some (.str s)=>match DJ P t with
       | some e=>bif Qv P t'&&Nat.beq s.length 0 then(match v with
         | .nils=>some (.val .nils)
         | v=>match slv v with
           |some (_,_,l,c)=>bif Nat.ble l (Oe c)then some (.val v)else none
           |none=>none)else
         bif Qv P t'&&Nat.ble s.length 16777216&&Nat.blt 0 s.length then(match v with
         | .nils=>some (.mk (.slu k 0 s.length (k+1) s.length) [⟨k, .row e 1 s.length (.un (k+1) s.length),qG s⟩] (k+2))
         | v=>match IG M v e 1 with
           |some (j,_,n,_,b)=>bif Nat.ble n 16777216 then some (.ge (.slu k 0 (n+s.length) (k+1) (n+s.length)) (M.set j ⟨k, .row e 1 (n+s.length) (.un (k+1) (n+s.length)),b.cs++qG s⟩) (k+2))else none
           |none=>none)else none
       |none=>none
     | some v,some u=>match Ou P t with
       | some s =>match RH M s.size u with
         | some (m,us)=>bif Nat.beq t t'&&us.all one&&Nat.beq us.length (m*s.size)&&Nat.ble (m*s.bytes) 16777216&&Nat.ble m 16777216 then
             bif Nat.beq m 0 then(match v with
              | .nils=>some (.val .nils)
              | v=>match slv v with
                |some (_,_,l,c)=>bif Nat.ble l (Oe c)then some (.val v)else none
                |none=>none)
             else bif fresh v then some (.mk (.slu k 0 m (k+1) m) [⟨k, .row s.e s.size m (.un (k+1) m),us⟩] (k+2))
             else(match IG M v s.e s.size with
              |some (j,_,n,_,b)=>bif Nat.ble ((n+m)*s.bytes) 16777216&&Nat.ble n 16777216 then some (.ge (.slu k 0 (n+m) (k+1) (n+m)) (M.set j ⟨k, .row s.e s.size (n+m) (.un (k+1) (n+m)),b.cs++us⟩) (k+2))else none
              |none=>none)
           else none
         |none=>none
       |none=>none
     |_,_=>none
   |_,_,_=>none
 |_=>none
def qH (P:pG)(k:Nat)(ρ:Dn)(M:List MC):Op→oP Res
 | .call c =>match c.callee,c.args.toList,c.argTypes.toList with
   | .builtin .unsafeString,[x,y],[pt,_]=>match aev ρ x,aev ρ y,P.underlying pt with
     | some (.ptr i 0),some (.int .i64 (.ofNat n)),some (.pointer e)=>match find M i with
       | some (j,b)=>match b.kd with
         | .row e' size n' _=>bif Nat.beq e' e&&Nat.beq size 1&&Nat.beq n' n&&Nat.beq (P.cellsOf e) 1&&Nat.blt 0 n&&Nat.ble n 16777216 then(match lettersA b.cs with
           |some s=>some (.ge (.str s) (M.eraseIdx j) k)
           |none=>none)else none
         |_=>none
       |none=>none
     |_,_,_=>none
   |_,_,_=>none
 |_=>none
where
 lettersA:List AV→oP (List Nat)
  |[]=>some []
  | .int .u8 (.ofNat b)::r=>match lettersA r with
    |some l=>bif Nat.blt b 256 then some (b::l)else none
    |none=>none
  |_=>none
section
variable{P:pG}{o:Oper}{ρ:Dn}{M M':List MC}{σ:Nat→Nat}{v:AV}{k:Nat}{r:Res}
def upd(σ:Nat→Nat)(k b:Nat):Nat→Nat:=fun i=>if i=k then b else σ i
theorem Ra{b:Nat}:Sup k σ (upd σ k b):=fun i hi=>by unfold upd;rw[aNy om]
theorem RI{b:Nat}:upd σ k b k=b:=by unfold upd;rw[aOn rfl]
theorem Nv{b:Nat}(hk:4096≤k):bl (upd σ k b) k=b:=by
 unfold bl;have:Nat.blt k 4096=false:=by
  cases h:Nat.blt k 4096 with
  |false=>rfl
  |true=>have:=aNt h;omega
 rw[this];exact RI
theorem Sup.trans{k':Nat}{σ σ' σ'':Nat→Nat}(hk:k≤k')(h:Sup k σ σ')(h':Sup k' σ' σ''):Sup k σ σ'':=fun i hi=>(h i hi).trans (h' i (aQo hi hk))
theorem Xf{b c:Nat}:Sup k σ (upd (upd σ k b) (k+1) c):=fun i hi=>by unfold upd;rw[aNy om,aNy om]
theorem iW{b c:Nat}(hk:4096≤k):bl (upd (upd σ k b) (k+1) c) k=b:=by
 rw[←Ur (k:=k+1) (fun i hi=>(Ra (σ:=upd σ k b) (k:=k+1) (b:=c)) i hi) (Nat.lt_succ_self k)];exact Nv hk
theorem iX{b c:Nat}:upd (upd σ k b) (k+1) c (k+1)=c:=RI
theorem lM:∀{n i:Nat} {l:List Nat},bJ i n l=true→l=List.range' i n
 |0,_,[],_=>rfl
 |0,_,_::_,h=>by cases h
 |_+1,_,[],h=>by cases h
 | n +1,i,j::r,h=>by
   unfold bJ at h;cases hb:Nat.beq i j with
   |false=>rw[hb]at h;cases h
   | true=>
     rw[hb]at h;rw[List.range'_succ,←aOg hb,←lM h]
theorem qI:∀l:List AV,Dm σ (bK l)=(Dm σ l).flatMap fun v=>v.cells.toList
 |[]=>rfl
 | v::r=>by
   show Dm σ (Lf v++bK r)=((val σ v)::Dm σ r).flatMap _;rw[aPl,←qI r,Rs,Dy,aOb,←Dy,←Dy]
theorem qJ:∀{l:List AV},(∀v∈l,bq k v)→Ej k (bK l)
 |[],_=>by simp only[bK,Ej]
 | v::r,h=>by
   rw[Lu];intro z hz;rcases aPi.1 (show z∈Lf v++bK r from hz)with hz|hz
   ·exact Lu.1 (Zu (h v (aNu ..))) z hz
   ·exact Lu.1 (qJ fun v hv=>h v (aNs _ hv)) z hz
theorem qK{zs:List AV}:∀n,Dm σ (lL zs n)=(List.replicate n (Dm σ zs)).flatten
 |0=>rfl
 | n+1=>by
   show Dm σ (zs++lL zs n)=_;rw[List.replicate_succ,List.flatten_cons,←qK n,Dy,aOb,←Dy,←Dy]
theorem qL{zs:List AV}(h:Ej k zs):∀n,Ej k (lL zs n)
 |0=>by simp only[lL,Ej]
 | n+1=>by
   rw[Lu];intro z hz;rcases aPi.1 (show z∈zs++lL zs n from hz)with hz|hz
   ·exact Lu.1 h z hz
   ·exact Lu.1 (qL h n) z hz
theorem Mk.mono{R R':vU→List Ad→Prop}{ρ:Bj}{Γ:List Ad}(h:Mk P o ρ Γ R)(hr:∀v N w,R v N→sat N w→R' v N):Mk P o ρ Γ R':=fun a w ha hs=>by
 obtain⟨v,N,w',h1,h2,h3⟩:=h a w ha hs;exact⟨v,N,w',h1,hr v N w' h2 h3.sat,h3⟩
theorem Ge.mono{R R':vU→List Ad→Prop}{ρ:Bj}{Γ:List Ad}(h:Ge P o ρ Γ R)(hr:∀v N w,R v N→sat N w→R' v N):Ge P o ρ Γ R':=fun a w ha hs=>by
 obtain⟨v,N,w',h1,h2,h3⟩:=h a w ha hs;exact⟨v,N,w',h1,hr v N w' h2 h3.sat,h3⟩
theorem XP{t e:tI}{size bytes:Nat}{zs:List vU}{ρ:Bj}{Γ:List Ad}(ho:o.op= .buildSlice t 0 #[])(ht:Ce P t e size bytes zs):Mk P o ρ Γ (fun v N=>∃b,v= .slice (some ⟨b,0,none⟩) 0 0∧N=[row e size (some ⟨b,0,none⟩) 0 0 []]):=fun a w _ _=>by
 refine⟨_,_,w.alloc (.cells #[] e),?_,⟨w.heap.size,rfl,rfl⟩,Db.new (sQ (us:=[]) sm (by simp[maxLen])) rfl rfl⟩;obtain⟨i,z,h1,h2,h3,_⟩:=ht.inf;unfold execOp;simp[ho,Instr.buildSlice,run_underlying ht.und,sizeOf,typeInfo,h1,Instr.fill,newRow];rw[show Array.map (fun(_:Nat)=>(default:vU)) (Array.range 0)=#[]from Array.eq_empty_of_size_eq_zero sm]
theorem aEv(hk:4096≤k)(hb:Qy k ρ)(h:mkA P k ρ o.op=some r):Zh P o ρ M k r:=by
 generalize ho:o.op=op at h;have hup:∀{cs:List AV},Ej k cs→∀σ b,Dm (upd σ k b) cs=Dm σ cs:=fun hc σ b=>(Mg (fun i hi=>(Ra (σ:=σ) (b:=b)) i hi) _ hc).symm;unfold mkA at h;split at h
 · rename_i ty
   split at h
   · rename_i zs hz
     cases h;have hbz:=Xa (k:=k) hz;refine⟨Nat.le_succ _,by simp only[bq];omega,fun c hc=>?_,fun σ=>Mk.mono (Mk.alloc ho (eO hz σ)) ?_⟩
     ·rw[aNz.1 hc];exact⟨Nat.lt_succ_self _,trivial,Ot (Nat.le_succ _) _ hbz⟩
     · rintro _ _ w ⟨b,rfl,rfl⟩ _
       refine⟨upd σ k b,Ra,by simp only[val,Nv hk],?_⟩;simp only[mem,ck,aOw,aPq,Nv hk,hup hbz]
   ·cases h
 · rename_i ty x
   split at h
   · rename_i u hx
     cases h;have hbz:=Zu (Gr hk hb hx);refine⟨Nat.le_succ _,by simp only[bq];omega,fun c hc=>?_,fun σ=>Mk.mono (Mk.box ho (Ih hx) Rs) ?_⟩
     ·rw[aNz.1 hc];exact⟨Nat.lt_succ_self _,trivial,Ot (Nat.le_succ _) _ hbz⟩
     · rintro _ _ w ⟨b,rfl,rfl⟩ _
       refine⟨upd σ k b,Ra,by simp only[val,Nv hk],?_⟩;simp only[mem,ck,aOw,aPq,Nv hk,hup hbz]
   ·cases h
 · rename_i t len parts
   split at h
   · rename_i s l hs hl
     cases h00:Nat.beq len 0 with
     | true=>
       rw[h00]at h;simp only[aPo]at h;have e00:=aOg h00;subst e00;cases hpe:parts.toList.isEmpty with
       |false=>rw[hpe]at h;cases h
       | true=>
         rw[hpe]at h;cases h;have ep:parts=#[]:=by rw[←Array.toList_inj];exact List.isEmpty_iff.1 hpe
         subst ep;refine⟨Nat.le_succ _,by simp only[bq];omega,fun c hc=>?_,fun σ=>Mk.mono (XP ho (Jw hs σ)) ?_⟩
         ·rw[aNz.1 hc];exact⟨Nat.lt_succ_self _,trivial,by simp only[Ej]⟩
         · rintro _ _ w ⟨b,rfl,rfl⟩ _
           refine⟨upd σ k b,Ra,by simp only[val,Nv hk],?_⟩;simp only[mem,ck,cp,aOw,aPq,Nv hk,Dm]
     |false=>
     rw[h00]at h;simp only[cond_false]at h;cases hq:(bJ 0 len (l.map (·.1))&&Nat.blt 0 len&&Nat.ble (len*s.size) 16777216&&(l.map (·.2)).all (fun v=>Nat.beq (Lf v).length s.size))with
     |false=>rw[hq]at h;cases h
     | true=>
       rw[hq]at h;cases h;simp only[aOc]at hq;obtain⟨⟨⟨h1,h2⟩,h3⟩,h4⟩:=hq;have hbl:=Zv hk hb hl;have hbz:Ej k (bK (l.map (·.2))):=qJ fun v hv=>by
        obtain⟨p,hp,rfl⟩:=aOm.1 hv;exact hbl p hp
       refine⟨Nat.le_succ _,by simp only[bq];omega,fun c hc=>?_,fun σ=>?_⟩
       ·rw[aNz.1 hc];exact⟨Nat.lt_succ_self _,trivial,Ot (Nat.le_succ _) _ hbz⟩
       · obtain⟨g1,g2⟩:=eY (σ:=σ) hl
         have e1:(l.map fun p=>(p.1,val σ p.2)).map (·.2)=Dm σ (l.map (·.2)):=by rw[Dy,aQe,aQe];rfl
         have e2:(l.map fun p=>(p.1,val σ p.2)).map (·.1)=l.map (·.1):=by rw[aQe];rfl
         rw[e1]at g1;rw[e2]at g2;refine Mk.mono (GR (parts:=parts.toList) (us:=Dm σ (bK (l.map (·.2)))) (by rw[ho]) (Jw hs σ) g1 (by rw[g2,lM h1]) h2 h3 ?_ (qI _).symm) ?_
         · rw[Dy,List.all_map,aPt]
           intro v hv;have:=aPt.1 h4 v hv;show Nat.beq (val σ v).cells.size s.size=true;rw[Rs];simpa[Iq]using this
         · rintro _ _ w ⟨b,rfl,rfl⟩ _
           refine⟨upd σ k b,Ra,by simp only[val,Nv hk],?_⟩;simp only[mem,ck,cp,aOw,aPq,Nv hk,hup hbz]
   ·cases h
 · rename_i t x y
   split at h
   · rename_i s n c hs hx hy
     have hbz:=wO (k:=k) hs;cases hq:Nat.beq n c with
     | true=>
       rw[hq]at h;simp only[aPo]at h;have e:=aOg hq;subst e;cases hq2:(Nat.ble (s.bytes*n) 16777216&&Nat.ble n 16777216)with
       |false=>rw[hq2]at h;cases h
       | true=>
         rw[hq2]at h;cases h;rw[aOc]at hq2;have g1:=aNt hq2.1;have g2:=aNt hq2.2;have hbr:=qL hbz n;refine⟨Nat.le_succ _,by simp only[bq];omega,fun c hc=>?_,fun σ=>?_⟩
         ·rw[aNz.1 hc];exact⟨Nat.lt_succ_self _,trivial,Ot (Nat.le_succ _) _ hbr⟩
         · obtain⟨kl,hx'⟩:=Jl (σ:=σ) hx
           obtain⟨kc,hy'⟩:=Jl (σ:=σ) hy;have ht:=Jw hs σ;refine Mk.mono (kH ho ht hx' hy' om (by simp only[maxLen];omega)) ?_;rintro _ _ w ⟨b,rfl,rfl⟩ _;refine⟨upd σ k b,Ra,by simp only[val,Nv hk],?_⟩;simp only[mem,ck,cp,aOw,aPq,Nv hk,hup hbr];rw[Vt _ _ _ ht.len ht.pos,qK]
     | false=>
       rw[hq]at h;simp only[cond_false]at h;cases hq2:(Nat.beq n 0&&Nat.ble (s.bytes*c) 16777216&&Nat.ble c 16777216)with
       |false=>rw[hq2]at h;cases h
       | true=>
         rw[hq2]at h;cases h;simp only[aOc]at hq2;obtain⟨⟨g0,g1⟩,g2⟩:=hq2;have g1:=aNt g1;have g2:=aNt g2;have e:=aOg g0;subst e;refine⟨Nat.le_succ _,by simp only[bq];omega,fun c hc=>?_,fun σ=>?_⟩
         ·rw[aNz.1 hc];exact⟨Nat.lt_succ_self _,trivial,by simp only[Ej]⟩
         · obtain⟨kl,hx'⟩:=Jl (σ:=σ) hx
           obtain⟨kc,hy'⟩:=Jl (σ:=σ) hy;refine Mk.mono (QF ho (Jw hs σ) hx' hy' om (by simp only[maxLen];omega)) ?_;rintro _ _ w ⟨b,rfl,rfl⟩ _;refine⟨upd σ k b,Ra,by simp only[val,Nv hk],?_⟩;simp only[mem,ck,cp,aOw,aPq,Nv hk,Dm]
   ·cases h
 · cases h
   refine⟨Nat.le_succ _,by simp only[bq];omega,fun c hc=>?_,fun σ=>Mk.mono (Ze (fun b:yB=> .string b) (fun v:vU=>v) ho) ?_⟩
   ·rw[aNz.1 hc];exact⟨Nat.lt_succ_self _,(fun p hp=>by cases hp),by simp only[Ej]⟩
   · rintro _ _ w ⟨b,rfl,rfl⟩ _
     refine⟨upd σ k b,Ra,by simp only[val,Nv hk],?_⟩;simp only[mem,ck,aOw,aPq,Nv hk,prs]
 ·cases h
end
section
variable{P:pG}{o:Oper}{ρ:Dn}{M M':List MC}{σ:Nat→Nat}{v:AV}{k:Nat}{r:Res}
theorem II{a b:AC}(h:MB a b=true):a=b:=by
 cases a<;>cases b<;>first|(cases h;done)|skip
 ·simp only[MB]at h;rw[aOg h]
 ·simp only[MB,aOc]at h;rw[aOg h.1,aOg h.2]
theorem ME{c:MC}{cs:List AV}(hc:Pi c=some cs){i j:Nat}(hf:find M i=some (j,c))(q n:Nat):∀w,oks (mem σ M) w→Src w (some ⟨bl σ i,q,none⟩) (Dm σ (iJ cs q n)):=fun w hw=>by
 have h:=kY (σ:=σ) hc q n w (hw _ (sN (Qo (σ:=σ) hf)));rw[(Kk hf).2]at h;exact .inr ⟨_,_,rfl,h⟩
theorem XQ{size:Nat}{u:AV}{m:Nat}{us:List AV}(h:RH M size u=some (m,us)):∃A:(Nat→Nat)→OA,∃c:(Nat→Nat)→Nat,∀σ,val σ u= .slice (A σ) m (c σ)∧∀w,oks (mem σ M) w→Src w (A σ) (Dm σ us):=by
 unfold RH at h;split at h
 · cases h
   exact⟨fun _=>none,fun _=>0,fun σ=>⟨by simp only[val],fun w _=> .inl rfl⟩⟩
 · split at h
   · rename_i i q l c hs
     split at h
     · rename_i j b hf
       split at h
       · rename_i cs hc
         cases hb:Nat.ble (q+l*size) cs.length with
         |false=>rw[hb]at h;cases h
         | true=>
           rw[hb]at h;cases h;exact⟨fun σ=>some ⟨bl σ i,q,none⟩,fun σ=>cp σ c,fun σ=>⟨Yk hs,ME hc hf q _⟩⟩
       ·cases h
     ·cases h
   ·cases h
theorem RJ{size:Nat}{u:AV}{m:Nat}{us:List AV}(h:RH M size u=some (m,us))(hM:Le k M):Ej k us:=by
 unfold RH at h;split at h
 ·cases h;simp only[Ej]
 · split at h
   · split at h
     · rename_i j b hf
       split at h
       · rename_i cs hc
         cases hb:Nat.ble _ cs.length with
         |false=>rw[hb]at h;cases h
         |true=>rw[hb]at h;cases h;exact kZ (Zw hc (hM b (Qf hf)))
       ·cases h
     ·cases h
   ·cases h
theorem xA{e size j i n:Nat}{c:AC}{b:MC}(h:IG M v e size=some (j,i,n,c,b)):find M i=some (j,b)∧b.kd= .row e size n c∧∀σ,val σ v= .slice (some ⟨bl σ i,0,none⟩) n (cp σ c):=by
 unfold IG at h;split at h
 · rename_i i' n' c' hs
   split at h
   · rename_i j' b' hf
     split at h
     · rename_i e2 size2 n2 c2 hk
       cases hq:(Nat.beq e2 e&&Nat.beq size2 size&&Nat.beq n2 n'&&MB c2 c')with
       |false=>rw[hq]at h;cases h
       | true=>
         rw[hq]at h;cases h;simp only[aOc]at hq;obtain⟨⟨⟨h1,h2⟩,h3⟩,h4⟩:=hq;rw[aOg h1,aOg h2,aOg h3,II h4]at hk;exact⟨hf,hk,fun σ=>Yk hs⟩
     ·cases h
   ·cases h
 ·cases h
theorem RL(h:fresh v=true):∃A:(Nat→Nat)→OA,∀σ,val σ v= .slice (A σ) 0 0:=by
 unfold fresh at h;split at h
 ·exact⟨fun _=>none,fun σ=>by simp only[val]⟩
 ·rename_i i q;exact⟨fun σ=>some ⟨bl σ i,q,none⟩,fun σ=>by simp only[val]⟩
 ·cases h
theorem qM{s:List Nat}:Lib.strCells (fT s)=Dm σ (qG s):=by
 unfold Lib.strCells fT qG;rw[Dy];simp[aQe,Function.comp_def,val]
theorem eZ{s:List Nat}:Ej k (qG s):=by
 rw[Lu];intro z hz;obtain⟨b,_,rfl⟩:=aOm.1 hz;simp only[bq]
theorem Xg{a b:List AV}(h1:Ej k a)(h2:Ej k b):Ej k (a++b):=by
 rw[Lu]at h1 h2⊢;exact fun z hz=>(aPi.1 hz).elim (h1 z) (h2 z)
theorem RN(hk:4096≤k){e size n:Nat}{cs:List AV}(hcs:Ej k cs)(hn:0<n){u:vU}{N:List Ad}{w:wD}{xs:List vU}(hx:∀σ',Sup k σ σ'→Dm σ' cs=xs)(h:∃A' cap',u= .slice A' n cap'∧N=[Sep.row e size A' n cap' xs])(hs:sat N w):
    iK k σ (.slu k 0 n (k+1) n) [⟨k, .row e size n (.un (k+1) n),cs⟩] u N:=by
 obtain⟨A',cap',rfl,rfl⟩:=h;have hrow:w.ownsRow 0 e size (.slice A' n cap') n xs:=hs.each _ (aNu ..);have hA:=Qa hrow hn;obtain⟨A2,cap2,h1,_,h2,_⟩:=Im hrow;cases h1;refine⟨upd (upd σ k (blk A')) (k+1) (cap'-n),Xf,?_,?_⟩
 · simp only[val,iW hk,iX]
   rw[show n+(cap'-n)=cap' by omega,←hA]
 · simp only[mem,ck,cp,aOw,aPq,iW hk,iX]
   rw[show n+(cap'-n)=cap' by omega,←hA,hx _ Xf]
theorem iY{e size n:Nat}{cs:List AV}(hcs:Ej k cs):Zf (k+2) ⟨k, .row e size n (.un (k+1) n),cs⟩:=⟨by show k<k+2;omega,by show k+1<k+2;omega,Ot om _ hcs⟩
theorem xB(hk:4096≤k){e size n j:Nat}{cs:List AV}(hM:Le k M)(hj:j<M.length)(hcs:Ej k cs)(hn:0<n){u:vU}{Γ:List Ad}{w:wD}(h:∃A' cap',u= .slice A' n cap'∧Γ=(mem σ M).set j (Sep.row e size A' n cap' (Dm σ cs)))(hs:sat Γ w):
    iK k σ (.slu k 0 n (k+1) n) (M.set j ⟨k, .row e size n (.un (k+1) n),cs⟩) u Γ:=by
 obtain⟨A',cap',rfl,rfl⟩:=h;have hmem:Sep.row e size A' n cap' (Dm σ cs)∈(mem σ M).set j (Sep.row e size A' n cap' (Dm σ cs)):=List.mem_iff_getElem?.2 ⟨j,by simp[mem,hj]⟩;have hrow:w.ownsRow 0 e size (.slice A' n cap') n (Dm σ cs):=hs.each _ hmem;have hA:=Qa hrow hn;obtain⟨A2,cap2,h1,_,h2,_⟩:=Im hrow;cases h1;refine⟨upd (upd σ k (blk A')) (k+1) (cap'-n),Xf,?_,?_⟩
 · simp only[val,iW hk,iX]
   rw[show n+(cap'-n)=cap' by omega,←hA]
 · rw[iU,←Li (fun i hi=>(Xf (σ:=σ) (b:=blk A') (c:=cap'-n)) i hi) hM]
   congr 1;simp only[ck,cp,iW hk,iX];rw[show n+(cap'-n)=cap' by omega,←hA,←Mg (fun i hi=>(Xf (σ:=σ) (b:=blk A') (c:=cap'-n)) i hi) _ hcs]
theorem IJ{i j:Nat}{c:MC}(h:find M i=some (j,c)):j<M.length:=(aNr.1 (Kk h).1).1
theorem xC{us:List AV}(h:us.all one=true):∀u∈Dm σ us,u.oneCell'=true:=aPt.1 (IE h)
theorem uC{t e:tI}{size bytes m cb:Nat}{zs xs:List vU}{A B:OA}{ρ:Bj}{Γ:List Ad}{x y:Operand}(ho:o.op= .call {callee:= .builtin .append,args:=#[x,y],argTypes:=#[t,t]})(ht:Ce P t e size bytes zs)
    (hx:ev ρ x=some (.slice A 0 0)) (hy:ev ρ y=some (.slice B m cb)) (hs:∀w,oks Γ w→Src w B xs) (hl:xs.length=m*size) (h1:∀u∈xs,u.oneCell'=true) (h0:0<m) (h63:m≤16777216) (hby:m*bytes≤16777216):
    Mk P o ρ Γ (fun v N=>∃A' cap',v= .slice A' m cap'∧N=[Sep.row e size A' m cap' xs]):=fun a w ha hG=>by
 obtain⟨it,zv,h2,h3,h4,h5,h6⟩:=ht.inf;have hsrc:=hs w hG;have hnil:w.ownsRow 0 e size (.slice none 0 0) 0 []:=World.ownsRow_nil w 0 e size;obtain⟨v',w',hrun,h7,h8,h9⟩:=Qn (P:=P) w 0 t o.type e it zv size bytes ht.und h2 h3 h4 h5 (by rw[h6];simpa using ht.len) ht.pos _ 0 [] hnil B m cb xs hl hsrc h1 (by simp only[maxLen];omega) (by rw[aOz];omega) (aOk _);have hrun2:(Builtin.append_ #[t,t] o.type #[.slice A 0 0, .slice B m cb]).run P w= .ok v' w':=by
  rw[←hrun];cases A with
  |none=>rfl
  | some b=>
    rcases hsrc with h|⟨g,off,rfl,hr⟩
    · have hp:=ht.pos
      have:0<m*size:=Nat.mul_pos h0 hp;rw[h]at hl;simp at hl;omega
    ·exact Vq ht.und h2 h3 b ⟨g,off,none⟩ m cb xs (by rw[hl,h4]) (fun j v hv=>by rw[Addr.add_mid];exact hr j v hv) h0 om (by rw[h5];omega)
 rw[aOz,aQj]at h7;obtain⟨A',cap',rfl,_⟩:=Im h7;have hnew:∀g,g∈Ik A'→g=w.heap.size:=fun g hg=>by
  obtain⟨ad,rfl,rfl⟩:=Om.1 hg;rcases h9 with h9|h9
  ·simp[Value.ownBlock]at h9
  ·simp[Value.ownBlock]at h9;exact h9
 refine⟨_,_,w',?_,⟨A',cap',rfl,rfl⟩,⟨⟨fun c hc=>by rw[aNz.1 hc];exact h7,by cases A'<;>simp[owns,row,Ik],by simp[reads,row]⟩,h8.mono fun _ _ h=>by simp[Value.ownBlock]at h,fun g hg hl=>?_,by simp[reads,row]⟩⟩
 · unfold execOp
   simp only[ho,resolve,invoke,builtin,aPg,aPp,aOy,List.map_toArray,aOw,aPq,ha.eval hx,ha.eval hy,hrun2]
 · have:g∈Ik A':=by simpa[owns,row]using hg
   have:=hnew g this;omega
theorem Zi{t u:tI}{e:Nat}{s:yB}{A:OA}{n cap:Nat}{ρ:Bj}{Γ:List Ad}{x y:Operand}(ho:o.op= .call {callee:= .builtin .append,args:=#[x,y],argTypes:=#[t,u]})(ht:ByteSl P t e)(hu:P.underlying u=some .string)
    (hx:ev ρ x=some (.slice A n cap)) (hy:ev ρ y=some (.string s)) (hs:s.size=0) (hc:n≤cap):Rd P o ρ Γ (.slice A n cap):=fun a w ha _=>by
 have hs2:s=bE:=by
  obtain⟨l⟩:=s;have:l=#[]:=Array.eq_empty_of_size_eq_zero hs;subst this;rfl
 subst hs2;have:(Builtin.append_ #[t,u] o.type #[.slice A n cap, .string bE]).run P w= .ok (.slice A n cap) w:=by
  obtain⟨i,h2,h3,h4,h5⟩:=ht.inf;cases A<;>simp[Builtin.append_,run_underlying ht.und,run_underlying hu,sizeOf,typeInfo,h2,Builtin.lenOf,Builtin.firstCells,hc,storeCells,loadCells,loadCellsFrom]
 unfold execOp;simp only[ho,resolve,invoke,builtin,aPg,aPp,aOy,List.map_toArray,aOw,aPq,ha.eval hx,ha.eval hy,this]
theorem aIr{as:Array Operand}{x y:Operand}(h:as.toList=[x,y]):as=#[x,y]:=by rw[←Array.toList_inj];exact h
theorem aDe{as:Array tI}{x y:tI}(h:as.toList=[x,y]):as=#[x,y]:=by rw[←Array.toList_inj];exact h
theorem XR (hk:4096≤k)(hb:Qy k ρ)(hM:Le k M)(h:aEu P k ρ M o.op=some r):Zh P o ρ M k r:=by
 generalize ho:o.op=op at h;unfold aEu at h;split at h
 · rename_i c
   obtain⟨cl,as,ts⟩:=c;simp only at h;split at h
   · rename_i x y t t' h1 h2
     have e1:=aIr h1;have e2:=aDe h2;subst e1 e2;split at h
     -- a word's letters
     · rename_i v s hx hy
       split at h
       · rename_i e hbs
         have hB:=byteSl_ok hbs;cases hz:(Qv P t'&&Nat.beq s.length 0)with
         | true=>
           rw[hz]at h;simp only[aPo]at h;simp only[aOc]at hz;obtain⟨q1,q2⟩:=hz;have q2:=aOg q2;split at h
           · cases h
             refine⟨by simp only[bq],fun σ=>?_⟩;simp only[val];exact Zi ho hB (Qg q1) (evv (σ:=σ) hx) (evv (σ:=σ) hy) (by rw[Am];exact q2) (aOd _)
           · split at h
             · rename_i l c hsv
               cases hl:Nat.ble l (Oe c)with
               |false=>rw[hl]at h;cases h
               | true=>
                 rw[hl]at h;cases h;have hl:=aNt hl;refine⟨Gr hk hb hx,fun σ=>?_⟩;have:=Tv (σ:=σ) (c:=c);rw[Yk hsv];exact Zi ho hB (Qg q1) (DI hx hsv) (evv (σ:=σ) hy) (by rw[Am];exact q2) om
             ·cases h
         |false=>
         rw[hz]at h;simp only[cond_false]at h;cases hq:(Qv P t'&&Nat.ble s.length 16777216&&Nat.blt 0 s.length)with
         |false=>rw[hq]at h;cases h
         | true=>
           rw[hq]at h;simp only[aPo]at h;simp only[aOc]at hq;obtain⟨⟨q1,q2⟩,q3⟩:=hq;have q2:=aNt q2;have q3:=aNt q3;split at h
           · cases h
             refine⟨by omega,by simp only[bq];omega,fun c hc=>by rw[aNz.1 hc];exact iY eZ,fun σ=>?_⟩;have:=Mk.appendStr (Γ:=mem σ M) ho hB (Qg q1) (evv (σ:=σ) hx) (evv (σ:=σ) hy) (by rw[Am];omega);rw[Am]at this;exact Mk.mono this fun u N w hR hs=>RN hk eZ q3 (fun σ' _=>(qM (σ:=σ') (s:=s)).symm) hR hs
           · split at h
             · rename_i j i n c b hon
               cases hn:Nat.ble n 16777216 with
               |false=>rw[hn]at h;cases h
               | true=>
                 rw[hn]at h;cases h;have hn:=aNt hn;obtain⟨g1,g2,g3⟩:=xA hon;have hbb:=hM b (Qf g1);have hcs:Ej k (b.cs++qG s):=Xg hbb.cs eZ;refine⟨by omega,by simp only[bq];omega,Xb (Ov om hM) (iY hcs),fun σ=>?_⟩;have hat:=Qo (σ:=σ) g1;have e3:ck σ b=Sep.row e 1 (some ⟨bl σ i,0,none⟩) n (cp σ c) (Dm σ b.cs):=by unfold ck;rw[g2,(Kk g1).2]
                 rw[e3]at hat
                 have hx':ev (Jo σ ρ) x=some (.slice (some ⟨bl σ i,0,none⟩) n (cp σ c)):=by rw[Ih (σ:=σ) hx,g3]
                 have:=Ge.appendStr (Γ:=mem σ M) ho hB (Qg q1) hx' (evv (σ:=σ) hy) hat (by rw[Am];omega)
                 rw[Am,qM (σ:=σ)]at this;refine Ge.mono this fun u N w hR hs=>xB hk hM (IJ g1) hcs om ?_ hs;obtain⟨A',cap',r1,r2⟩:=hR;exact⟨A',cap',r1,by rw[r2,Dy,Dy,Dy,aOb]⟩
             ·cases h
       ·cases h
     -- elements of a slice
     · rename_i v u _ hx hy
       split at h
       · rename_i s hs
         split at h
         · rename_i m us hsrc
           cases hq:(Nat.beq t t'&&us.all one&&Nat.beq us.length (m*s.size)&&Nat.ble (m*s.bytes) 16777216&&Nat.ble m 16777216)with
           |false=>rw[hq]at h;cases h
           | true=>
             rw[hq]at h;simp only[aPo]at h;simp only[aOc]at hq;obtain⟨⟨⟨⟨q1,q2⟩,q3⟩,q4⟩,q5⟩:=hq;have q1:=aOg q1;have q3:=aOg q3;have q4:=aNt q4;have q5:=aNt q5;subst q1;obtain⟨Af,cf,hsf⟩:=XQ hsrc;have hbu:=RJ hsrc hM;cases hm:Nat.beq m 0 with
             | true=>
               rw[hm]at h;simp only[aPo]at h;have hm0:=aOg hm;split at h
               · cases h
                 refine⟨by simp only[bq],fun σ=>?_⟩;simp only[val];exact Uk ho (Jw hs σ) (evv (σ:=σ) hx) (by rw[Ih (σ:=σ) hy,(hsf σ).1]) hm0 (aOd _)
               · split at h
                 · rename_i l c hsv
                   cases hl:Nat.ble l (Oe c)with
                   |false=>rw[hl]at h;cases h
                   | true=>
                     rw[hl]at h;cases h;have hl:=aNt hl;refine⟨Gr hk hb hx,fun σ=>?_⟩;have:=Tv (σ:=σ) (c:=c);rw[Yk hsv];exact Uk ho (Jw hs σ) (DI hx hsv) (by rw[Ih (σ:=σ) hy,(hsf σ).1]) hm0 om
                 ·cases h
             | false =>
               rw[hm]at h;simp only[cond_false]at h;have hm0:0<m:=by
                rcases Nat.eq_zero_or_pos m with h|h
                ·rw[h]at hm;cases hm
                ·exact h
               cases hfr:fresh v with
               | true=>
                 rw[hfr]at h;cases h;obtain⟨Bf,hBf⟩:=RL hfr;refine⟨by omega,by simp only[bq];omega,fun c hc=>by rw[aNz.1 hc];exact iY hbu,fun σ=>?_⟩;have:=uC (Γ:=mem σ M) ho (Jw hs σ) (by rw[Ih (σ:=σ) hx,hBf]) (by rw[Ih (σ:=σ) hy,(hsf σ).1]) (hsf σ).2 (by rw[Iq];exact q3) (xC q2) hm0 q5 q4;exact Mk.mono this fun u N w hR hs=>RN hk hbu hm0 (fun σ' he=>(Mg (fun i hi=>he i hi) _ hbu).symm) hR hs
               | false=>
                 rw[hfr]at h;simp only[cond_false]at h;split at h
                 · rename_i j i n c b hon
                   cases hn:(Nat.ble ((n+m)*s.bytes) 16777216&&Nat.ble n 16777216)with
                   |false=>rw[hn]at h;cases h
                   | true=>
                     rw[hn]at h;cases h;rw[aOc]at hn;have n1:=aNt hn.1;have n2:=aNt hn.2;obtain⟨g1,g2,g3⟩:=xA hon;have hbb:=hM b (Qf g1);have hcs:Ej k (b.cs++us):=Xg hbb.cs hbu;refine⟨by omega,by simp only[bq];omega,Xb (Ov om hM) (iY hcs),fun σ=>?_⟩;have hat:=Qo (σ:=σ) g1;have e3:ck σ b=Sep.row s.e s.size (some ⟨bl σ i,0,none⟩) n (cp σ c) (Dm σ b.cs):=by unfold ck;rw[g2,(Kk g1).2]
                     rw[e3]at hat
                     have hx':ev (Jo σ ρ) x=some (.slice (some ⟨bl σ i,0,none⟩) n (cp σ c)):=by rw[Ih (σ:=σ) hx,g3]
                     have:=Ge.append (Γ:=mem σ M) ho (Jw hs σ) hx' (by rw[Ih (σ:=σ) hy,(hsf σ).1]) hat (fun w hw=>(hsf σ).2 w hw.each) (by rw[Iq];exact q3) (xC q2) (by simp only[maxLen];omega) om;refine Ge.mono this fun u N w hR hs=>xB hk hM (IJ g1) hcs om ?_ hs;obtain⟨A',cap',r1,r2⟩:=hR;exact⟨A',cap',r1,by rw[r2,Dy,Dy,Dy,aOb]⟩
                 ·cases h
         ·cases h
       ·cases h
     ·cases h
   ·cases h
 ·cases h
theorem lN:∀{cs:List AV} {s:List Nat},qH.lettersA cs=some s→Dm σ cs=(s.map UInt8.ofNat).map fun z=>Value.int .u8 z.toNat
 |[],s,h=>by simp only[qH.lettersA,aOi]at h;subst h;rfl
 | c :: r,s,h=>by
   unfold qH.lettersA at h;split at h
   ·rename_i he;cases he
   · rename_i b r' he
     cases he;split at h
     · rename_i l hl
       cases hb:Nat.blt b 256 with
       |false=>rw[hb]at h;cases h
       | true=>
         rw[hb]at h;cases h;have:=aNt hb;simp only[Dm,val,lN hl,aOw];congr 2;simp;omega
     ·cases h
   ·cases h
theorem MF{j:Nat}:(mem σ M).eraseIdx j=mem σ (M.eraseIdx j):=by
 unfold mem
 induction M generalizing j with
 |nil=>rfl
 | cons c M ih=>
   cases j with
   |zero=>rfl
   |succ j=>simp only[aOw,List.eraseIdx_cons_succ,ih]
theorem RO(hk:4096≤k)(hM:Le k M)(h:qH P k ρ M o.op=some r):Zh P o ρ M k r:=by
 generalize ho:o.op=op at h;unfold qH at h;split at h
 · rename_i c
   obtain⟨cl,as,ts⟩:=c;simp only at h;split at h
   · rename_i x y pt it h1 h2
     have e1:=aIr h1;have e2:=aDe h2;subst e1 e2;split at h
     · rename_i i n e hx hy hu
       split at h
       · rename_i j b hf
         split at h
         · rename_i e' size n' c hkd
           cases hq:(Nat.beq e' e&&Nat.beq size 1&&Nat.beq n' n&&Nat.beq (P.cellsOf e) 1&&Nat.blt 0 n&&Nat.ble n 16777216)with
           |false=>rw[hq]at h;cases h
           | true=>
             rw[hq]at h;simp only[aPo]at h;simp only[aOc]at hq;obtain⟨⟨⟨⟨⟨q1,q2⟩,q3⟩,q4⟩,q5⟩,q6⟩:=hq;rw[aOg q1,aOg q2,aOg q3]at hkd;have q6:=aNt q6;split at h
             · rename_i s hls
               cases h;refine⟨aOd _,by simp only[bq],fun c hc=>hM c (List.mem_of_mem_eraseIdx hc),fun σ=>?_⟩;have hat:=Qo (σ:=σ) hf;have e3:ck σ b=Sep.row e 1 (some ⟨bl σ i,0,none⟩) n (cp σ c) ((s.map UInt8.ofNat).map fun z=>Value.int .u8 z.toNat):=by unfold ck;rw[hkd,(Kk hf).2];simp only[lN (σ:=σ) hls]
               rw[e3]at hat
               refine Ge.mono (Ge.unsafeStr ho hu (aOg q4) (evv (σ:=σ) hx) (evv (σ:=σ) hy) hat (aNt q5) om) ?_;rintro _ _ w ⟨rfl,rfl⟩ _;refine⟨σ,fun _ _=>rfl,by simp only[val,fT],?_⟩;exact MF
             ·cases h
         ·cases h
       ·cases h
     ·cases h
   ·cases h
 ·cases h
end
def cls:Op→Nat
 | .move _=>0
 | .assign _=>0
 | .pick _ _ _=>0
 | .extract _ _=>0
 | .nilCheck _=>0
 | .binOp _ _ _ _ _=>1
 | .unOp _ _ _=>1
 | .fieldAddr _ _ _=>2
 | .indexAddr _ _ _=>2
 | .index _ _ _=>2
 | .field _ _ _=>2
 | .build _ _=>2
 | .makeFunc _ _ _=>2
 | .slice _ _ _ _ _=>2
 | .load _ _=>3
 | .store _ _ _=>4
 | .mapUpdate _ _ _ _=>4
 | .alloc _=>5
 | .box _ _=>5
 | .buildSlice _ _ _=>5
 | .makeSlice _ _ _=>5
 | .makeMap _ _=>5
 | .convert _ _ _=>6
 | .call c=>match c.callee with
   | .builtin .append=>7
   | .builtin .unsafeString=>8
   | .builtin _=>9
   |_=>10
 |_=>99
def aIs(P:pG)(f:Nat):Bool:=
 match P.funcs[f]? with
 |some fn=>fn.body.isNone
 |none=>false
structure Same(P:pG) where
 is:Nat→Bool
 ok:∀f,is f=true→∀x w,(callFunc f #[x]).run P w= .ok (.value x) w
def xD{P:pG}(S:Same P)(ρ:Dn):Op→oP AV
 | .call c=>match c.callee,c.args.toList with
   | .value (.func f),[x]=>bif S.is f then aev ρ x else none
   |_,_=>none
 |_=>none
def aEw{P:pG}(S:Same P)(ρ:Dn)(ty:tI):Op→oP AV
 | .call c=>match c.callee with
   | .value (.func f)=>bif aIs P f then(match xD S ρ (.call c)with
     |some v=>some v
     |none=>tT P ρ ty (.call c))else none
   |_=>none
 |_=>none
def gN:oP AV→oP Res
 |some v=>some (.val v)
 |none=>none
def aIt:oP (List MC)→oP Res
 |some v=>some (.up v)
 |none=>none
def lQ{P:pG}(S:Same P)(k:Nat)(ρ:Dn)(M:List MC)(o:Oper):oP Res:=
 match cls o.op with
 |0=>gN (moveA P ρ o.op)
 | 1=>match moveA P ρ o.op with
   |some v=>some (.val v)
   |none=>gN (tT P ρ o.type o.op)
 |2=>gN (DC P ρ o.op)
 |3=>gN (lJ P ρ M o.op)
 |4=>aIt (upA P ρ M o.op)
 |5=>mkA P k ρ o.op
 | 6=>match tT P ρ o.type o.op with
   |some v=>some (.val v)
   |none=>gN (lJ P ρ M o.op)
 |7=>aEu P k ρ M o.op
 |8=>qH P k ρ M o.op
 | 9 =>match DC P ρ o.op with
   |some v=>some (.val v)
   | none=>match lJ P ρ M o.op with
     |some v=>some (.val v)
     |none=>gN (tT P ρ o.type o.op)
 |10=>gN (aEw S ρ o.type o.op)
 |_=>none
def xE(P:pG)(ρ:Dn):Op→oP (Nat×List AV)
 | .call c=>match c.callee with
   | .value x=>match aev ρ x,oU ρ c.args.toList with
     |some (.fn f fst cap),some vs=>bif Mf P f then some (f,fst++vs++cap)else none
     |_,_=>none
   |_=>none
 |_=>none
section
variable{P:pG}{S:Same P}{o:Oper}{ρ:Dn}{M:List MC}{k:Nat}{r:Res}{v:AV}
theorem RP{σ:Nat→Nat}{Γ:List Ad}(h:xD S ρ o.op=some v):Rd P o (Jo σ ρ) Γ (val σ v):=by
 generalize ho:o.op=op at h;unfold xD at h;split at h
 · rename_i c
   obtain⟨cl,as,ts⟩:=c;simp only at h;split at h
   · rename_i f x h2
     have e1:as=#[x]:=by rw[←Array.toList_inj];exact h2
     subst e1;cases hs:S.is f with
     |false=>rw[hs]at h;cases h
     | true=>
       rw[hs]at h;simp only[aPo]at h;have hx:=Ih (σ:=σ) h;exact fun a w ha _=>by
        unfold execOp;have hf:a.eval (.func f)= .func (.func f) #[] #[]:=rfl;simp[ho,resolve,hf,Deferred.ofValue,invoke,ha.eval hx,S.ok f hs]
   ·cases h
 ·cases h
theorem MG{op:Op}(hk:4096≤k)(hb:Qy k ρ)(h:xD S ρ op=some v):bq k v:=by
 unfold xD at h;split at h
 · split at h
   · cases hs:S.is _ with
     |false=>rw[hs]at h;cases h
     |true=>rw[hs]at h;exact Gr hk hb h
   ·cases h
 ·cases h
theorem XT(hk:4096≤k)(hb:Qy k ρ)(h:aEw S ρ o.type o.op=some v):Zh P o ρ M k (.val v):=by
 generalize ho:o.op=op at h;unfold aEw at h;split at h
 · split at h
   · cases he:aIs P _ with
     |false=>rw[he]at h;cases h
     | true=>
       rw[he]at h;simp only[aPo]at h;split at h
       · rename_i v' hv
         cases h;exact⟨MG hk hb hv,fun σ=>RP (by rw[ho];exact hv)⟩
       ·exact⟨wS h,fun σ=>IA (by rw[ho];exact h)⟩
   ·cases h
 ·cases h
theorem Nw{x:oP AV}(h:gN x=some r):∃v,x=some v∧r= .val v:=by
 cases x with
 |none=>cases h
 |some v=>cases h;exact⟨v,rfl,rfl⟩
theorem MH{x:oP (List MC)}(h:aIt x=some r):∃v,x=some v∧r= .up v:=by
 cases x with
 |none=>cases h
 |some v=>cases h;exact⟨v,rfl,rfl⟩
theorem Xh(hk:4096≤k)(hb:Qy k ρ)(hM:Le k M)(h:lQ S k ρ M o=some r):Zh P o ρ M k r:=by
 have mv:∀{v},moveA P ρ o.op=some v→Zh P o ρ M k (.val v):=fun h=>⟨LM hk hb h,fun σ=>QZ h⟩
 have vl:∀{v},DC P ρ o.op=some v→Zh P o ρ M k (.val v):=fun h=>⟨RG hk hb h,fun σ=>XO h⟩
 have sm:∀{v},tT P ρ o.type o.op=some v→Zh P o ρ M k (.val v):=fun h=>⟨wS h,fun σ=>IA h⟩
 unfold lQ at h;split at h
 ·obtain⟨v,h1,rfl⟩:=Nw h;exact mv h1
 · split at h
   ·rename_i v h1;cases h;exact mv h1
   ·obtain⟨v,h1,rfl⟩:=Nw h;exact sm h1
 ·obtain⟨v,h1,rfl⟩:=Nw h;exact vl h1
 ·obtain⟨v,h1,rfl⟩:=Nw h;exact Xd hk hb hM h1
 ·obtain⟨v,h1,rfl⟩:=MH h;exact aEt hk hb hM h1
 ·exact aEv hk hb h
 · split at h
   ·rename_i v h1;cases h;exact sm h1
   ·obtain⟨v,h1,rfl⟩:=Nw h;exact Xd hk hb hM h1
 ·exact XR hk hb hM h
 ·exact RO hk hM h
 · split at h
   ·rename_i v h1;cases h;exact vl h1
   · split at h
     ·rename_i v h1;cases h;exact Xd hk hb hM h1
     ·obtain⟨v,h1,rfl⟩:=Nw h;exact sm h1
 ·obtain⟨v,h1,rfl⟩:=Nw h;exact XT hk hb h1
 ·cases h
theorem iZ{f:Nat}{vs:List AV}(h:xE P ρ o.op=some (f,vs))(σ:Nat→Nat):Ent P o (Jo σ ρ) f (Dm σ vs):=by
 generalize ho:o.op=op at h;unfold xE at h;split at h
 · rename_i c
   obtain⟨cl,as,ts⟩:=c;simp only at h;split at h
   · rename_i x
     split at h
     · rename_i f' fst cap us hx hu
       cases hc:Mf P f' with
       |false=>rw[hc]at h;cases h
       | true=>
         rw[hc]at h;cases h;have:=di (P:=P) (ρ:=Jo σ ρ) (xs:=as.toList) (ts:=ts) (by rw[ho]) (evv (σ:=σ) hx) (aY hu) hc;rw[Dy,aOb,aOb,←Dy,←Dy,←Dy];exact this
     ·cases h
   ·cases h
 ·cases h
theorem bL{op:Op}{f:Nat}{vs:List AV}(hk:4096≤k)(hb:Qy k ρ)(h:xE P ρ op=some (f,vs)):Ej k vs:=by
 unfold xE at h;split at h
 · split at h
   · split at h
     · rename_i f' fst cap us hx hu
       cases hc:Mf P f' with
       |false=>rw[hc]at h;cases h
       | true=>
         rw[hc]at h;cases h;have h1:=Gr hk hb hx;simp only[bq]at h1;exact Xg (Xg h1.1 (bB hk hb hu)) h1.2
     ·cases h
   ·cases h
 ·cases h
end
def XU(ops:Array Oper)(ρ:Dn)(o:Oper):oP Bool:=
 match o.guard with
 |none=>some true
 | some (j,s)=>match ops[j]? with
   | some p=>match p.dst with
     | some d=>match Sr ρ d with
       |some (.bool b)=>some (b==s)
       |some .und=>some false
       |_=>none
     |none=>none
   |none=>none
structure St where
 ρ:Dn
 M:List MC
 k:Nat
structure St.Good(s:St):Prop where
 big:4096≤s.k
 sl:Qy s.k s.ρ
 me:Le s.k s.M
abbrev Oz:=Nat→List AV→List MC→Nat→oP (AV×List MC×Nat)
structure aIu(P:pG)(f:FuncId)(vs:List AV)(M:List MC)(k:Nat)(v:AV)(M':List MC)(k':Nat):Prop where
 le:k≤k'
 bval:bq k' v
 bmem:Le k' M'
 does:∀σ,Bd P f (Dm σ vs) (mem σ M) (iK k σ v M')
def Nb(P:pG)(F:Oz):Prop:=∀f vs M k v M' k',F f vs M k=some (v,M',k')→4096≤k→Ej k vs→Le k M→aIu P f vs M k v M' k'
def XV(n:Nat)(d:oP Nat)(s:St):Res→oP St
 | .val v=>match d with
   |some d=>bif Nat.blt d n then some ⟨(d,v)::s.ρ,s.M,s.k⟩else none
   |none=>none
 | .up M'=>match d with
   |some _=>none
   |none=>some ⟨s.ρ,M',s.k⟩
 | .mk v N k'=>match d with
   |some d=>bif Nat.blt d n then some ⟨(d,v)::s.ρ,N++s.M,k'⟩else none
   |none=>none
 | .ge v M' k'=>match d with
   |some d=>bif Nat.blt d n then some ⟨(d,v)::s.ρ,M',k'⟩else none
   |none=>none
def RQ{P:pG}(S:Same P)(F:Oz)(n:Nat)(ops:Array Oper)(o:Oper)(s:St):oP St:=
 match XU ops s.ρ o with
 |none=>none
 | some false=>match o.dst with
   |some d=>bif Nat.blt d n then some ⟨(d, .und)::s.ρ,s.M,s.k⟩else none
   |none=>none
 | some true=>match lQ S s.k s.ρ s.M o with
   |some r=>XV n o.dst s r
   | none=>match xE P s.ρ o.op,o.dst with
     | some (f,vs),some d=>match F f vs s.M s.k with
       |some (v,M',k')=>bif Nat.blt d n then some ⟨(d,v)::s.ρ,M',k'⟩else none
       |none=>none
     |_,_=>none
def RS{P:pG}(S:Same P)(F:Oz)(n:Nat)(ops:Array Oper):List Oper→St→oP St
 |[],s=>some s
 | o::r,s=>match RQ S F n ops o s with
   |some s'=>RS S F n ops r s'
   |none=>none
def Goes(C:Cx)(s s':St)(K' K:Act→wD→Prop):Prop:=
 ∀σ,(∀σ',Sup s.k σ σ'→To C (Jo σ' s'.ρ) (mem σ' s'.M) K')→To C (Jo σ s.ρ) (mem σ s.M) K
theorem Goes.trans{C:Cx}{s s' s'':St}{K K' K'':Act→wD→Prop}(hk:s.k≤s'.k)(h:Goes C s s' K' K)(h':Goes C s' s'' K'' K'):Goes C s s'' K'' K:=
 fun σ k=>h σ fun σ' he=>h' σ' fun σ'' he'=>k σ'' (Sup.trans hk he he')
theorem lT:∀Γ:List Ad,Ui Γ (List.replicate Γ.length 0)=some (Γ,[])
 |[]=>rfl
 | c::Γ=>by
   have h:=lT Γ;simp only[ag,List.replicate_succ];unfold Ui;simp[h]
section
variable{P:pG}{S:Same P}{F:Oz}{o:Oper}{s s':St}{σ:Nat→Nat}{v:AV}{ops:Array Oper}{C:Cx}{Q:Exit→Act→wD→Prop}{rest:List Oper}{d:Nat}
theorem Kl{ρ:Dn}{b:Bool}(h:XU ops ρ o=some b):grd ops (Jo σ ρ) o=some b:=by
 unfold XU at h;unfold grd;cases hg:o.guard with
 |none=>rw[hg]at h;exact h
 | some p=>
   obtain⟨j,q⟩:=p;rw[hg]at h;simp only at h⊢;split at h
   · rename_i p hp
     split at h
     · rename_i d hd
       split at h
       · rename_i c hl
         simp only[hp,Option.bind_some,hd,Ph σ hl,val];exact h
       · rename_i hl
         simp only[hp,Option.bind_some,hd,Ph σ hl,val];exact h
       ·cases h
     ·cases h
   ·cases h
theorem Fy{k:Nat}{ρ:Dn}(hv:bq k v)(h:Qy k ρ):Qy k ((d,v)::ρ):=fun p hp=>by
 rcases aNx.1 hp with rfl|hp
 ·exact hv
 ·exact h p hp
theorem Su{k k':Nat}(hk:k≤k'){ρ:Dn}(h:Qy k ρ):Qy k' ρ:=fun p hp=>tJ hk _ (h p hp)
theorem bu{M N:List MC}:mem σ (M++N)=mem σ M++mem σ N:=by unfold mem;rw[aOb]
theorem Og{ρ:Dn}:Jo σ ((d,v)::ρ)=(d,val σ v)::Jo σ ρ:=rfl
theorem RV(hF:Nb P F)(hs:s.Good)(h:RQ S F C.n ops o s=some s'):s'.Good∧s.k≤s'.k∧Goes C s s' (wpList P ops Q rest) (wpList P ops Q (o::rest)):=by
 obtain⟨hbig,hsl,hme⟩:=hs;unfold RQ at h;split at h
 ·cases h
 · rename_i hg
   split at h
   · rename_i d hd
     cases hn:Nat.blt d C.n with
     |false=>rw[hn]at h;cases h
     | true=>
       rw[hn]at h;cases h;exact⟨⟨hbig,Fy (by simp only[bq]) hsl,hme⟩,aOd _,fun σ k=>Jsk (Kl hg) hd hn (k σ fun _ _=>rfl)⟩
   ·cases h
 · rename_i hg
   split at h
   · rename_i r hr
     have hok:=Xh hbig hsl hme hr;unfold XV at h;split at h
     · split at h
       · rename_i d hd
         cases hn:Nat.blt d C.n with
         |false=>rw[hn]at h;cases h
         | true=>
           rw[hn]at h;cases h;exact⟨⟨hbig,Fy hok.1 hsl,hme⟩,aOd _,fun σ k=>To.rd (Kl hg) hd hn (hok.2 σ) (k σ fun _ _=>rfl)⟩
       ·cases h
     · split at h
       ·cases h
       · rename_i hd
         cases h;exact⟨⟨hbig,hsl,hok.1⟩,aOd _,fun σ k=>Jup (Kl hg) hd (hok.2 σ) (k σ fun _ _=>rfl)⟩
     · rename_i v N k'
       obtain⟨h1,h2,h3,h4⟩:=hok;split at h
       · rename_i d hd
         cases hn:Nat.blt d C.n with
         |false=>rw[hn]at h;cases h
         | true=>
           rw[hn]at h;cases h;refine⟨⟨aPx hbig h1,Fy h2 (Su h1 hsl),Hg h3 (Ov h1 hme)⟩,h1,fun σ k=>Jmk (Kl hg) hd hn (h4 σ) ?_⟩;rintro _ _ ⟨σ',he,rfl,rfl⟩;have:=k σ' he;rw[bu,←Li he hme,Og,←Qe he hsl]at this;exact this
       ·cases h
     · rename_i v M' k'
       obtain⟨h1,h2,h3,h4⟩:=hok;split at h
       · rename_i d hd
         cases hn:Nat.blt d C.n with
         |false=>rw[hn]at h;cases h
         | true=>
           rw[hn]at h;cases h;refine⟨⟨aPx hbig h1,Fy h2 (Su h1 hsl),h3⟩,h1,fun σ k=>Jge (Kl hg) hd hn (h4 σ) ?_⟩;rintro _ _ ⟨σ',he,rfl,rfl⟩;have:=k σ' he;rw[Og,←Qe he hsl]at this;exact this
       ·cases h
   · split at h
     · rename_i f vs d he hd
       split at h
       · rename_i v M' k' hf
         cases hn:Nat.blt d C.n with
         |false=>rw[hn]at h;cases h
         | true=>
           rw[hn]at h;cases h;have hk:=hF _ _ _ _ _ _ _ hf hbig (bL hbig hsl he) hme;refine⟨⟨aPx hbig hk.le,Fy hk.bval (Su hk.le hsl),hk.bmem⟩,hk.le,fun σ k=>?_⟩;refine Jcl _ (Kl hg) hd hn (iZ he σ) (lT _) (hk.does σ) ?_;rintro _ _ ⟨σ',he',rfl,rfl⟩;have:=k σ' he';rw[Og,←Qe he' hsl]at this;rw[aOo];exact this
       ·cases h
     ·cases h
theorem IK(hF:Nb P F):∀(l:List Oper) (s s':St),RS S F C.n ops l s=some s'→s.Good→s'.Good∧s.k≤s'.k∧Goes C s s' (Q .normal) (wpList P ops Q l)
 | [],s,s',h,hs=>by
   simp only[RS,aOi]at h;subst h;exact⟨hs,aOd _,fun σ k=>Jn (k σ fun _ _=>rfl)⟩
 | o ::r,s,s',h,hs=>by
   unfold RS at h;split at h
   · rename_i s1 h1
     obtain⟨g1,g2,g3⟩:=RV (Q:=Q) (rest:=r) hF hs h1;obtain⟨a,b,c⟩:=IK hF r s1 s' h g1;exact⟨a,aPx g2 b,Goes.trans g2 g3 c⟩
   ·cases h
end
mutual
def eqV:AV→AV→Bool
 | .bool a, .bool b=>a==b
 | .int k m, .int k' n=>wT k k'&&decide (m=n)
 | .str a, .str b=>eqL a b
 | .ptr i q, .ptr j r=>Nat.beq i j&&Nat.beq q r
 | .nilp, .nilp=>true
 | .sl a b c d, .sl e f g h=>Nat.beq a e&&Nat.beq b f&&Nat.beq c g&&Nat.beq d h
 | .slu a b c d x, .slu e f g h y=>Nat.beq a e&&Nat.beq b f&&Nat.beq c g&&Nat.beq d h&&Nat.beq x y
 | .nils, .nils=>true
 | .mp i, .mp j=>Nat.beq i j
 | .nilm, .nilm=>true
 | .nilf, .nilf=>true
 | .nili, .nili=>true
 | .und, .und=>true
 | .fn f a b, .fn g c d=>Nat.beq f g&&iL a c&&iL b d
 | .ifc t v, .ifc u w=>Nat.beq t u&&eqV v w
 | .agg a, .agg b=>iL a b
 | .tup a, .tup b=>iL a b
 |_,_=>false
def iL:List AV→List AV→Bool
 |[],[]=>true
 |a::x,b::y=>eqV a b&&iL x y
 |_,_=>false
def eqL:List Nat→List Nat→Bool
 |[],[]=>true
 |a::x,b::y=>Nat.beq a b&&eqL x y
 |_,_=>false
end
theorem uD:∀{a b:List Nat},eqL a b=true→a=b
 |[],[],_=>rfl
 |[],_::_,h=>by simp[eqL]at h
 |_::_,[],h=>by simp[eqL]at h
 |a::x,b::y,h=>by simp only[eqL,aOc]at h;rw[aOg h.1,uD h.2]
mutual
theorem fA:∀(a b:AV),eqV a b=true→a=b
 | .bool _,b,h=>by cases b<;>simp[eqV]at h;rw[h]
 | .int _ _,b,h=>by
   cases b<;>simp[eqV,wT]at h;rw[h.1,h.2]
 | .str _,b,h=>by cases b<;>simp[eqV]at h;rw[uD h]
 | .ptr _ _,b,h=>by
   cases b<;>simp[eqV]at h;rw[h.1,h.2]
 | .nilp,b,h=>by cases b<;>simp[eqV]at h;rfl
 | .sl _ _ _ _,b,h=>by
   cases b<;>simp[eqV]at h;rw[h.1.1.1,h.1.1.2,h.1.2,h.2]
 | .slu _ _ _ _ _,b,h=>by
   cases b<;>simp[eqV]at h;rw[h.1.1.1.1,h.1.1.1.2,h.1.1.2,h.1.2,h.2]
 | .nils,b,h=>by cases b<;>simp[eqV]at h;rfl
 | .mp _,b,h=>by cases b<;>simp[eqV]at h;rw[h]
 | .nilm,b,h=>by cases b<;>simp[eqV]at h;rfl
 | .nilf,b,h=>by cases b<;>simp[eqV]at h;rfl
 | .nili,b,h=>by cases b<;>simp[eqV]at h;rfl
 | .und,b,h=>by cases b<;>simp[eqV]at h;rfl
 | .fn _ x y,b,h=>by
   cases b<;>simp[eqV]at h;rw[h.1.1,Ut x _ h.1.2,Ut y _ h.2]
 | .ifc _ v,b,h=>by
   cases b<;>simp[eqV]at h;rw[h.1,fA v _ h.2]
 | .agg x,b,h=>by
   cases b<;>simp[eqV]at h;rw[Ut x _ h]
 | .tup x,b,h=>by
   cases b<;>simp[eqV]at h;rw[Ut x _ h]
theorem Ut:∀(a b:List AV),iL a b=true→a=b
 |[],b,h=>by cases b<;>simp[iL]at h;rfl
 | v ::x,b,h=>by
   cases b with
   |nil=>simp[iL]at h
   | cons w y=>
     simp only[iL,aOc]at h;rw[fA v w h.1,Ut x y h.2]
end
def eqK:MK→MK→Bool
 | .box t, .box u=>Nat.beq t u
 | .row a b c d, .row e f g h=>Nat.beq a e&&Nat.beq b f&&Nat.beq c g&&MB d h
 | .ro, .ro=>true
 |_,_=>false
theorem RX{a b:MK}(h:eqK a b=true):a=b:=by
 cases a<;>cases b<;>first|(cases h;done)|(simp[eqK]at h)
 ·rw[h]
 ·rw[h.1.1.1,h.1.1.2,h.1.2,II h.2]
 ·rfl
def thB:List MC→List MC→Bool
 |[],_=>true
 | c::r,M=>(match find M c.i with
   |some (_,b)=>eqK c.kd b.kd&&iL c.cs b.cs
   |none=>false)&&thB r M
def News:=List (Nat×List MC)
def Vu(N:List (Nat×List MC)):List MC:=N.flatMap (·.2)
def Tg(N:List (Nat×List MC))(deps:List Nat):List MC:=N.flatMap fun n=>bif deps.any (Nat.beq n.1)then n.2 else []
def Pb(σ:Nat→Nat)(N:List (Nat×List MC)):Sep.News:=N.map fun n=>(n.1,mem σ n.2)
def roM:List MC→List MC
 |[]=>[]
 | c::r=>match Pi c with
   |some cs=>⟨c.i, .ro,cs⟩::roM r
   |none=>roM r
def RY(c:MC):Bool:=
 match c.kd with
 | .ro=>true
 |_=>false
def RZ(k:Nat)(M:List MC):List MC:=M.filter fun c=>Nat.ble k c.i&& !RY c
mutual
def fB(k:Nat):AV→Bool
 | .ptr i _=>Nat.blt i k
 | .sl i _ _ _=>Nat.blt i k
 | .slu i _ _ c _=>Nat.blt i k&&Nat.blt c k
 | .mp i=>Nat.blt i k
 | .fn _ a b=>bM k a&&bM k b
 | .ifc _ v=>fB k v
 | .agg l=>bM k l
 | .tup l=>bM k l
 |_=>true
def bM(k:Nat):List AV→Bool
 |[]=>true
 |v::l=>fB k v&&bM k l
end
mutual
theorem uE{k:Nat}:∀(v:AV),fB k v=true→bq k v
 | .ptr _ _,h=>by simp only[fB]at h;simp only[bq];exact aNt h
 | .sl _ _ _ _,h=>by simp only[fB]at h;simp only[bq];exact aNt h
 | .slu _ _ _ _ _,h=>by simp only[fB,aOc]at h;simp only[bq];exact⟨aNt h.1,aNt h.2⟩
 | .mp _,h=>by simp only[fB]at h;simp only[bq];exact aNt h
 | .fn _ a b,h=>by simp only[fB,aOc]at h;simp only[bq];exact⟨Qi a h.1,Qi b h.2⟩
 | .ifc _ v,h=>by simp only[fB]at h;simp only[bq];exact uE v h
 | .agg l,h=>by simp only[fB]at h;simp only[bq];exact Qi l h
 | .tup l,h=>by simp only[fB]at h;simp only[bq];exact Qi l h
 | .bool _,_=>by simp only[bq]
 | .int _ _,_=>by simp only[bq]
 | .str _,_=>by simp only[bq]
 | .nilp,_=>by simp only[bq]
 | .nils,_=>by simp only[bq]
 | .nilm,_=>by simp only[bq]
 | .nilf,_=>by simp only[bq]
 | .nili,_=>by simp only[bq]
 | .und,_=>by simp only[bq]
theorem Qi{k:Nat}:∀(l:List AV),bM k l=true→Ej k l
 |[],_=>by simp only[Ej]
 |v::l,h=>by simp only[bM,aOc]at h;simp only[Ej];exact⟨uE v h.1,Qi l h.2⟩
end
structure FS where
 ρ:Dn
 M:List MC
 N:List (Nat×List MC)
 k:Nat
def bN(i:Nat):List (Nat×List MC)→Bool
 |[]=>true
 |n::r=> !Nat.beq n.1 i&&bN i r
def SA {P:pG}(S:Same P)(F:Oz)(n:Nat)(l:List Oper)(Th:List MC)(m:Ep)(s:FS):oP FS:=
 match l[m.i]? with
 |none=>none
 | some o=>match XU l.toArray s.ρ o with
   |none=>none
   | some false=>match o.dst with
     | some d=>bif Nat.blt d n then(match m.kind with
       |0=>some ⟨(d, .und)::s.ρ,s.M,s.N,s.k⟩
       |1=>some ⟨(d, .und)::s.ρ,s.M,s.N,s.k⟩
       |2=>bif bN m.i s.N then some ⟨(d, .und)::s.ρ,s.M,(m.i,[])::s.N,s.k⟩else none
       |3=>some ⟨(d, .und)::s.ρ,s.M,s.N,s.k⟩
       |_=>none)else none
     |none=>none
   | some true=>match m.kind with
     | 0=>match o.dst,lQ S s.k s.ρ Th o with
       |some d,some (.val v)=>bif Nat.blt d n then some ⟨(d,v)::s.ρ,s.M,s.N,s.k⟩else none
       |_,_=>none
     | 1=>match o.dst,lQ S s.k s.ρ (Tg s.N m.deps++s.M) o with
       |some d,some (.val v)=>bif Nat.blt d n then some ⟨(d,v)::s.ρ,s.M,s.N,s.k⟩else none
       |_,_=>none
     | 2=>match o.dst,lQ S s.k s.ρ (Tg s.N m.deps++s.M) o with
       |some d,some (.mk v N k')=>bif Nat.blt d n&&bN m.i s.N then some ⟨(d,v)::s.ρ,s.M,(m.i,N)::s.N,k'⟩else none
       |_,_=>none
     | 3 =>match o.dst,xE P s.ρ o.op with
       | some d,some (f,vs)=>match F f vs (roM (Tg s.N m.deps++s.M)) s.k with
         |some (v,_,_)=>bif Nat.blt d n&&fB s.k v then some ⟨(d,v)::s.ρ,s.M,s.N,s.k⟩else none
         |none=>none
       |_,_=>none
     | 4 =>match o.dst,xE P s.ρ o.op with
       | some d,some (f,vs)=>match F f vs (roM (Tg s.N m.deps++s.M)) s.k with
         |some (v,M',k')=>bif Nat.blt d n&&bN m.i s.N&&o.guard.isNone then some ⟨(d,v)::s.ρ,s.M,(m.i,RZ s.k M')::s.N,k'⟩else none
         |none=>none
       |_,_=>none
     | 5 =>bif o.guard.isNone then(match lQ S s.k s.ρ (Vu s.N++s.M) o with
       | some r=>match XV n o.dst ⟨s.ρ,Vu s.N++s.M,s.k⟩ r with
         |some s'=>bif thB Th s'.M then some ⟨s'.ρ,s'.M,[],s'.k⟩else none
         |none=>none
       | none=>match xE P s.ρ o.op,o.dst with
         | some (f,vs),some d=>match F f vs (Vu s.N++s.M) s.k with
           |some (v,M',k')=>bif Nat.blt d n&&thB Th M' then some ⟨(d,v)::s.ρ,M',[],k'⟩else none
           |none=>none
         |_,_=>none)else none
     |_=>none
def xG{P:pG}(S:Same P)(F:Oz)(n:Nat)(l:List Oper)(Th:List MC):List Ep→FS→oP FS
 |[],s=>some s
 | m::r,s=>match SA S F n l Th m s with
   |some s'=>xG S F n l Th r s'
   |none=>none
structure FS.Good(s:FS):Prop where
 big:4096≤s.k
 sl:Qy s.k s.ρ
 me:Le s.k s.M
 nw:Le s.k (Vu s.N)
section
variable{P:pG}{S:Same P}{F:Oz}{C:Cx}{σ σ':Nat→Nat}{l:List Oper}{Th M M':List MC}{N:List (Nat×List MC)}{m:Ep}{ms:List Ep}{s s':FS}{k k':Nat}{Q:Act→wD→Prop}{v:AV}
theorem lU:flat (Pb σ N)=mem σ (Vu N):=by
 induction N with
 |nil=>rfl
 | cons n N ih=>
   show mem σ n.2++flat (Pb σ N)=mem σ (n.2++Vu N);rw[ih,bu]
theorem Sv{deps:List Nat}:avail (Pb σ N) deps=mem σ (Tg N deps):=by
 induction N with
 |nil=>rfl
 | cons n N ih=>
   show(bif deps.any (Nat.beq n.1)then mem σ n.2 else [])++avail (Pb σ N) deps=mem σ ((bif deps.any (Nat.beq n.1)then n.2 else [])++Tg N deps);rw[ih,bu];cases deps.any (Nat.beq n.1)<;>rfl
theorem Uu{deps:List Nat}(h:Le k (Vu N)):Le k (Tg N deps):=fun c hc=>by
 unfold Tg at hc;obtain⟨n,hn,hc⟩:=aOs.1 hc;cases hd:deps.any (Nat.beq n.1)with
 |false=>rw[hd]at hc;cases hc
 |true=>rw[hd]at hc;exact h c (aOs.2 ⟨n,hn,hc⟩)
theorem qN(he:Sup k σ σ')(h:Le k (Vu N)):Pb σ N=Pb σ' N:=by
 unfold Pb;refine List.map_congr_left fun n hn=>?_;rw[Li he fun c hc=>h c (aOs.2 ⟨n,hn,hc⟩)]
theorem lV{i:Nat}(h:bN i N=true):(Pb σ N).all (fun m=> !Nat.beq m.1 i)=true:=by
 induction N with
 |nil=>rfl
 | cons n N ih=>
   simp only[bN,aOc]at h;show(!Nat.beq n.1 i&&(Pb σ N).all _)=true;rw[ih h.2,h.1];rfl
theorem uF:∀{Th M:List MC},thB Th M=true→∀c∈Th,c∈M
 |[],_,_,c,hc=>by cases hc
 | d :: r,M,h,c,hc=>by
   simp only[thB,aOc]at h;rcases aNx.1 hc with rfl|hc
   · have h1:=h.1
     split at h1
     · rename_i j b hf
       rw[aOc]at h1;have e1:=RX h1.1;have e2:=Ut _ _ h1.2;have e3:=(Kk hf).2;have:c=b:=by
        obtain⟨i,kd,cs⟩:=c;obtain⟨i',kd',cs'⟩:=b;simp only at e1 e2 e3;subst e1 e2 e3;rfl
       rw[this];exact Qf hf
     ·cases h1
   ·exact uF h.2 c hc
theorem Uv(h:thB Th M=true):∀w,oks (mem σ M) w→oks (mem σ Th) w:=fun w hw c hc=>by
 obtain⟨d,hd,rfl⟩:=aOm.1 hc;exact hw _ (List.mem_map_of_mem (uF h d hd))
theorem xH:owns (mem σ (roM M))=[]:=by
 induction M with
 |nil=>rfl
 | cons c M ih=>
   unfold roM;split
   · rename_i cs _
     show owns (ck σ ⟨c.i, .ro,cs⟩::mem σ (roM M))=[];show(ck σ ⟨c.i, .ro,cs⟩).owns++owns (mem σ (roM M))=[];rw[ih];rfl
   ·exact ih
theorem SB{c:MC}{cs:List AV}(h:Pi c=some cs){w:wD}(hw:(ck σ c).holds w):(ck σ ⟨c.i, .ro,cs⟩).holds w:=by
 obtain⟨i,kd,cs'⟩:=c;unfold Pi at h;unfold ck at hw⊢;cases kd with
 |box t=>cases h;exact .inr ⟨_,0,rfl,Ji hw⟩
 | row e size n c=>
   cases h;obtain⟨A',cap',h1,h2,_⟩:=Im hw;simp only[Value.slice.injEq]at h1;show Src w (some ⟨bl σ i,0,none⟩) _;rw[h1.1];exact h2
 |ro=>cases h;exact hw
 |maps m=>cases h
theorem uG{w:wD}(h:oks (mem σ M) w):oks (mem σ (roM M)) w:=by
 induction M with
 |nil=>exact h
 | cons c M ih=>
   have h1:(ck σ c).holds w:=h _ (aNu ..);have h2:=ih fun d hd=>h d (aNs _ hd);unfold roM;split
   · rename_i cs hc
     intro d hd;rcases aNx.1 (show d∈ck σ ⟨c.i, .ro,cs⟩::mem σ (roM M)from hd)with rfl|hd
     ·exact SB hc h1
     ·exact h2 d hd
   ·exact h2
theorem IL(h:Le k M):Le k (roM M):=by
 induction M with
 |nil=>exact h
 | cons c M ih=>
   have h1:=h c (aNu ..);have h2:=ih fun d hd=>h d (aNs _ hd);unfold roM;split
   · rename_i cs hc
     exact LH ⟨h1.pl,trivial,Zw hc h1⟩ h2
   ·exact h2
theorem DK:reads (mem σ (RZ k M))=[]:=by
 unfold RZ
 induction M with
 |nil=>rfl
 | cons c M ih=>
   rw[List.filter_cons];split
   · rename_i hc
     show(ck σ c).reads++reads (mem σ (List.filter _ M))=[];rw[ih];simp only[aOc,Bool.not_eq_true']at hc;obtain⟨i,kd,cs⟩:=c;unfold ck;cases kd<;>first|rfl|(simp[RY]at hc)
   ·exact ih
theorem xI{M M':List MC}(h:M.Perm M'):(mem σ M).Perm (mem σ M'):=h.map _
theorem fC{f:FuncId}{vs:List vU}{Γ:List Ad}{v:AV}{p:MC→Bool}(h:Bd P f vs Γ (iK k σ v M)):Bd P f vs Γ (iK k σ v (M.filter p)):=fun w hs=>
 (h w hs).mono fun e w' ⟨u,Γ',h1,⟨σ',h2,h3,h4⟩,h5⟩=>by
  refine⟨u,mem σ' (M.filter p),h1,⟨σ',h2,h3,rfl⟩,?_⟩;subst h4;have hp:(mem σ' M).Perm (mem σ' (M.filter p)++mem σ' (M.filter fun c=> !p c)):=by
   rw[←bu];exact xI (List.filter_append_perm p M).symm
  exact(h5.perm hp).drop
theorem Xi{p:MC→Bool}(h:Le k M):Le k (M.filter p):=fun c hc=>h c (aQm.1 hc).1
theorem XW{o:Oper}{ρ:Bj}{Γ:List Ad}{u:vU}(h:Rd P o ρ Γ u):Ge P o ρ Γ (fun v Γ'=>v=u∧Γ'=Γ):=fun a w ha hs=>⟨_,_,w,h a w ha hs.each,⟨rfl,rfl⟩,Db.refl hs⟩
theorem XX{o:Oper}{ρ:Bj}{Γ:List Ad}{R:vU→List Ad→Prop}(h:Mk P o ρ Γ R):Ge P o ρ Γ (fun v Γ'=>∃N,R v N∧Γ'=N++Γ):=fun a w ha hs=>by
 obtain⟨v,N,w',h1,h2,h3⟩:=h a w ha hs.each;exact⟨v,_,w',h1,⟨N,h2,rfl⟩,h3.add hs⟩
theorem SC (hF :Nb P F)(hs:s.Good)(hT:Le s.k Th)(h:SA S F C.n l Th m s=some s'):s'.Good∧s.k≤s'.k∧∀σ,
    (∀σ',Sup s.k σ σ'→Dt P noT l (mem σ' Th) Q ms C (Jo σ' s'.ρ) (mem σ' s'.M) (Pb σ' s'.N))→Dt P noT l (mem σ Th) Q (m::ms) C (Jo σ s.ρ) (mem σ s.M) (Pb σ s.N):=by
 obtain⟨hbig,hsl,hme,hnw⟩:=hs;obtain⟨i,deps,kd⟩:=m;unfold SA at h;simp only at h;split at h
 ·cases h
 · rename_i o ho
   split at h
   ·cases h
   -- barred by its guard
   · rename_i hg
     split at h
     · rename_i d hd
       cases hn:Nat.blt d C.n with
       |false=>rw[hn]at h;cases h
       | true=>
         rw[hn]at h;simp only[aPo]at h;split at h
         · cases h
           exact⟨⟨hbig,Fy (by simp only[bq]) hsl,hme,hnw⟩,aOd _,fun σ k=>Fw.skip (.inl rfl) ho (Kl hg) hd hn (k σ fun _ _=>rfl)⟩
         · cases h
           exact⟨⟨hbig,Fy (by simp only[bq]) hsl,hme,hnw⟩,aOd _,fun σ k=>Fw.skip (.inr (.inl rfl)) ho (Kl hg) hd hn (k σ fun _ _=>rfl)⟩
         · cases hni:bN i s.N with
           |false=>rw[hni]at h;cases h
           | true=>
             rw[hni]at h;cases h;exact⟨⟨hbig,Fy (by simp only[bq]) hsl,hme,hnw⟩,aOd _,fun σ k=>QJ ho (Kl hg) hd hn (lV hni) (k σ fun _ _=>rfl)⟩
         · cases h
           exact⟨⟨hbig,Fy (by simp only[bq]) hsl,hme,hnw⟩,aOd _,fun σ k=>Fw.skip (.inr (.inr rfl)) ho (Kl hg) hd hn (k σ fun _ _=>rfl)⟩
         ·cases h
     ·cases h
   · rename_i hg
     split at h
     -- kind 0
     · split at h
       · rename_i d v hd hr
         cases hn:Nat.blt d C.n with
         |false=>rw[hn]at h;cases h
         | true=>
           rw[hn]at h;cases h;have hok:=Xh hbig hsl hT hr;exact⟨⟨hbig,Fy hok.1 hsl,hme,hnw⟩,aOd _,fun σ k=>Nt ho (Kl hg) hd hn (hok.2 σ) (k σ fun _ _=>rfl)⟩
       ·cases h
     -- kind 1
     · split at h
       · rename_i d v hd hr
         cases hn:Nat.blt d C.n with
         |false=>rw[hn]at h;cases h
         | true=>
           rw[hn]at h;cases h;have hok:=Xh hbig hsl (Hg (Uu hnw) hme) hr;refine⟨⟨hbig,Fy hok.1 hsl,hme,hnw⟩,aOd _,fun σ k=>Fw.rd ho (Kl hg) hd hn ?_ (k σ fun _ _=>rfl)⟩;rw[Sv,←bu];exact hok.2 σ
       ·cases h
     -- kind 2
     · split at h
       · rename_i d v N k' hd hr
         cases hn:(Nat.blt d C.n&&bN i s.N)with
         |false=>rw[hn]at h;cases h
         | true=>
           rw[hn]at h;cases h;rw[aOc]at hn;obtain⟨h1,h2,h3,h4⟩:=Xh hbig hsl (Hg (Uu hnw) hme) hr;refine⟨⟨aPx hbig h1,Fy h2 (Su h1 hsl),Ov h1 hme,Hg h3 (Ov h1 hnw)⟩,h1,fun σ k=>?_⟩;have hmk:=h4 σ;rw[bu,←Sv]at hmk;refine aEm ho (Kl hg) hd hn.1 (lV hn.2) hmk ?_;rintro _ _ ⟨σ',he,rfl,rfl⟩;have:=k σ' he;rw[Og,←Qe he hsl,←Li he hme,←Li he hT]at this;have e1:Pb σ' ((i,N)::s.N)=(i,mem σ' N)::Pb σ s.N:=by rw[qN he hnw];rfl
           rw[e1]at this;exact this
       ·cases h
     -- kind 3
     · split at h
       · rename_i d f vs hd he
         split at h
         · rename_i v M' k' hf
           cases hn:(Nat.blt d C.n&&fB s.k v)with
           |false=>rw[hn]at h;cases h
           | true=>
             rw[hn]at h;cases h;rw[aOc]at hn;have hbv:=uE v hn.2;have hA:=Hg (Uu (deps:=deps) hnw) hme;have hk:=hF _ _ _ _ _ _ _ hf hbig (bL hbig hsl he) (IL hA);refine⟨⟨hbig,Fy hbv hsl,hme,hnw⟩,aOd _,fun σ k=>?_⟩;refine Oo (Γ1:=mem σ (roM (Tg s.N deps++s.M))) ho (Kl hg) hd hn.1 (iZ he σ) (Bd.mono (hk.does σ) ?_) xH (fun w hw=>uG ?_) (k σ fun _ _=>rfl)
             · rintro _ _ ⟨σ',he',rfl,_⟩
               exact(Yj (fun i hi=>he' i hi) v hbv).symm
             ·rw[bu,←Sv];exact hw
         ·cases h
       ·cases h
     -- kind 4
     · split at h
       · rename_i d f vs hd he
         split at h
         · rename_i v M' k' hf
           cases hn:(Nat.blt d C.n&&bN i s.N&&o.guard.isNone)with
           |false=>rw[hn]at h;cases h
           | true=>
             rw[hn]at h;cases h;simp only[aOc,Option.isNone_iff_eq_none]at hn;obtain⟨⟨n1,n2⟩,n3⟩:=hn;have hA:=Hg (Uu (deps:=deps) hnw) hme;have hk:=hF _ _ _ _ _ _ _ hf hbig (bL hbig hsl he) (IL hA);refine⟨⟨aPx hbig hk.le,Fy hk.bval (Su hk.le hsl),Ov hk.le hme,Hg (Xi hk.bmem) (Ov hk.le hnw)⟩,hk.le,fun σ k=>?_⟩;refine Dx (Γ1:=mem σ (roM (Tg s.N deps++s.M))) ho n3 hd n1 (lV n2) (iZ he σ) (fC (p:=fun c=>Nat.ble s.k c.i&& !RY c) (hk.does σ)) xH (fun w hw=>uG (by rw[bu,←Sv];exact hw)) ?_;rintro _ _ ⟨σ',he',rfl,rfl⟩;refine⟨DK,?_⟩;have:=k σ' he';rw[Og,←Qe he' hsl,←Li he' hme,←Li he' hT]at this;have e1:Pb σ' ((i,RZ s.k M')::s.N)=(i,mem σ' (RZ s.k M'))::Pb σ s.N:=by rw[qN he' hnw];rfl
             rw[e1]at this;exact this
         ·cases h
       ·cases h
     -- kind 5
     · cases hgn : o.guard.isNone with
       |false=>rw[hgn]at h;cases h
       | true=>
         rw[hgn]at h;simp only[aPo]at h;have hg0:=Option.isNone_iff_eq_none.1 hgn;have hA:=Hg hnw hme;have eA:∀σ,mem σ (Vu s.N++s.M)=flat (Pb σ s.N)++mem σ s.M:=fun σ=>by rw[bu,lU]
         split at h
         · rename_i r hr
           have hok:=Xh hbig hsl hA hr;split at h
           · rename_i s1 hp
             cases hth:thB Th s1.M with
             |false=>rw[hth]at h;cases h
             | true=>
               rw[hth]at h;cases h;unfold XV at hp;split at hp
               · split at hp
                 · rename_i d hd
                   cases hn:Nat.blt d C.n with
                   |false=>rw[hn]at hp;cases hp
                   | true=>
                     rw[hn]at hp;cases hp;refine⟨⟨hbig,Fy hok.1 hsl,hA,fun c hc=>by cases hc⟩,aOd _,fun σ k=>?_⟩;have hge:=XW (hok.2 σ);rw[eA]at hge;refine Fw.ge ho hg0 hd hn hge ?_;rintro _ _ ⟨rfl,rfl⟩;have:=k σ fun _ _=>rfl;rw[eA]at this;exact⟨fun w hw=>Uv hth w (by rw[eA];exact hw),this⟩
                 ·cases hp
               · split at hp
                 ·cases hp
                 · rename_i hd
                   cases hp;refine⟨⟨hbig,hsl,hok.1,fun c hc=>by cases hc⟩,aOd _,fun σ k=>?_⟩;have hup:=hok.2 σ;rw[eA]at hup;exact dh ho hg0 hd hup (Uv hth) (k σ fun _ _=>rfl)
               · rename_i v N k'
                 obtain⟨h1,h2,h3,h4⟩:=hok;split at hp
                 · rename_i d hd
                   cases hn:Nat.blt d C.n with
                   |false=>rw[hn]at hp;cases hp
                   | true=>
                     rw[hn]at hp;cases hp;refine⟨⟨aPx hbig h1,Fy h2 (Su h1 hsl),Hg h3 (Ov h1 hA),fun c hc=>by cases hc⟩,h1,fun σ k=>?_⟩;have hge:=XX (h4 σ);rw[eA]at hge;refine Fw.ge ho hg0 hd hn hge ?_;rintro _ _ ⟨_,⟨σ',he,rfl,rfl⟩,rfl⟩;have:=k σ' he;have e2:mem σ' (N++(Vu s.N++s.M))=mem σ' N++(flat (Pb σ s.N)++mem σ s.M):=by rw[bu,←Li he hA,eA]
                     rw[Og,←Qe he hsl,←Li he hT,e2]at this;refine⟨fun w hw=>?_,this⟩;have:=Uv (σ:=σ') hth w (by rw[e2];exact hw);rw[←Li he hT]at this;exact this
                 ·cases hp
               · rename_i v M' k'
                 obtain⟨h1,h2,h3,h4⟩:=hok;split at hp
                 · rename_i d hd
                   cases hn:Nat.blt d C.n with
                   |false=>rw[hn]at hp;cases hp
                   | true=>
                     rw[hn]at hp;cases hp;refine⟨⟨aPx hbig h1,Fy h2 (Su h1 hsl),h3,fun c hc=>by cases hc⟩,h1,fun σ k=>?_⟩;have hge:=h4 σ;rw[eA]at hge;refine Fw.ge ho hg0 hd hn hge ?_;rintro _ _ ⟨σ',he,rfl,rfl⟩;have:=k σ' he;rw[Og,←Qe he hsl,←Li he hT]at this;refine⟨fun w hw=>?_,this⟩;have:=Uv (σ:=σ') hth w hw;rw[←Li he hT]at this;exact this
                 ·cases hp
           ·cases h
         · split at h
           · rename_i f vs d he hd
             split at h
             · rename_i v M' k' hf
               cases hn:(Nat.blt d C.n&&thB Th M')with
               |false=>rw[hn]at h;cases h
               | true=>
                 rw[hn]at h;cases h;rw[aOc]at hn;have hk:=hF _ _ _ _ _ _ _ hf hbig (bL hbig hsl he) hA;refine⟨⟨aPx hbig hk.le,Fy hk.bval (Su hk.le hsl),hk.bmem,fun c hc=>by cases hc⟩,hk.le,fun σ k=>?_⟩;have hdo:=hk.does σ;rw[eA]at hdo;refine Fw.call _ ho hg0 hd hn.1 (iZ he σ) (lT _) hdo ?_;rintro _ _ ⟨σ',he',rfl,rfl⟩;have:=k σ' he';rw[Og,←Qe he' hsl,←Li he' hT]at this;rw[aOo];refine⟨fun w hw=>?_,this⟩;have:=Uv (σ:=σ') hn.2 w hw;rw[←Li he' hT]at this;exact this
             ·cases h
           ·cases h
     ·cases h
theorem xJ(hF:Nb P F):∀(ms:List Ep) (s s':FS),s.Good→Le s.k Th→xG S F C.n l Th ms s=some s'→s'.Good∧s.k≤s'.k∧∀σ,
    (∀σ',Sup s.k σ σ'→To C (Jo σ' s'.ρ) (mem σ' (Vu s'.N++s'.M)) Q)→Dt P noT l (mem σ Th) Q ms C (Jo σ s.ρ) (mem σ s.M) (Pb σ s.N)
 | [],s,s',hs,_,h=>by
   simp only[xG,aOi]at h;subst h;refine⟨hs,aOd _,fun σ k=>Fw.fin ?_⟩;have:=k σ fun _ _=>rfl;rw[bu,←lU]at this;exact this
 | m ::r,s,s',hs,hT,h=>by
   unfold xG at h;split at h
   · rename_i s1 h1
     obtain⟨g1,g2,g3⟩:=SC (Q:=Q) (ms:=r) hF hs hT h1;obtain⟨a,b,c⟩:=xJ hF r s1 s' g1 (Ov g2 hT) h;exact⟨a,aPx g2 b,fun σ k=>g3 σ fun σ' he=>c σ' fun σ'' he'=>k σ'' (Sup.trans g2 he he')⟩
   ·cases h
end
end Go.In

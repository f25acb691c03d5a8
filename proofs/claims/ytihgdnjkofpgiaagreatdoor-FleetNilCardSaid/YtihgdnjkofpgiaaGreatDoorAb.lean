/- Merged out of A8, A9, A10, A11, A12, A13, A14 by merge.py. Own text. -/
import Derived.Test.YtihgdnjkofpgiaaGreatDoorAa
import Derived.Lib.AppendStr
import Derived.Lib.UnsafeStr
set_option linter.unusedVariables false
set_option linter.unusedSimpArgs false
namespace Go.In
open Go.RowKit Go.Flow Go.Mem Go.Sep
def byteSl(P:Program)(t:TypeId):Option Nat:=
 match P.underlying t with
 | some (.slice e)=>match P.info? e with
   | some i=>match i.zero with
     |some (.int .u8 0)=>bif Nat.beq i.size 1&&Nat.beq i.bytes 1 then some e else none
     |_=>none
   |none=>none
 |_=>none
structure ByteSl(P:Program)(t e:TypeId):Prop where
 und:P.underlying t=some (.slice e)
 inf:∃i,P.info? e=some i∧i.zero=some (.int .u8 0)∧i.size=1∧i.bytes=1
theorem byteSl_ok{P:Program}{t:TypeId}{e:Nat}(h:byteSl P t=some e):ByteSl P t e:=by
 unfold byteSl at h
 split at h
 · rename_i e' hu
   split at h
   · rename_i i hi
     split at h
     · rename_i hz
       cases hb:(Nat.beq i.size 1&&Nat.beq i.bytes 1)with
       |false=>rw[hb]at h;cases h
       | true=>
         rw[hb]at h;cases h
         rw[Bool.and_eq_true]at hb
         exact⟨hu,i,hi,hz,Nat.eq_of_beq_eq_true hb.1,Nat.eq_of_beq_eq_true hb.2⟩
     ·cases h
   ·cases h
 ·cases h
section
variable{P:Program}{o:Oper}{ρ:Slots}{Γ:List Chunk}{x y:Operand}{t u e:TypeId}
theorem run_append_str{w:World}{ty:TypeId}(ht:ByteSl P t e)(hu:P.underlying u=some .string){v:Value}{n:Nat}{xs:List Value}(hown:w.ownsRow 0 e 1 v n xs)(s:ByteArray)
    (hbytes:n+s.size≤140737488355328):
    ∃v' w',(Builtin.append_ #[t,u] ty #[v, .string s]).run P w= .ok v' w'∧w'.ownsRow 0 e 1 v' (n+s.size) (xs++Lib.strCells s)∧Keeps (fun g=>v.ownBlock=some g) w w'∧
     ∀g,v'.ownBlock=some g→v.ownBlock=some g∨w.heap.size≤g:=by
 obtain⟨i,h2,h3,h4,h5⟩:=ht.inf
 have h63:n+s.size≤maxLen:=by simp only[maxLen];omega
 have hk:∀w',w.grownBy w' v.ownBlock→w.drawn≤w'.drawn→Keeps (fun g=>v.ownBlock=some g) w w':=fun w' h hd=>(Keeps.of_grown h hd).mono fun _ _ h=>h.symm
 obtain⟨v',w',hr,g1,g2,_⟩:=Lib.run_append_own_string (P:=P) w 0 t u ty e i ht.und hu h2 h3 h4 h5 v n xs hown s h63 hbytes (Nat.zero_le _)
 refine⟨v',w',hr,g1,hk w' g2 (run_drawn _ _ _ _ hr),fun g hg=>?_⟩
 rcases hown.2 with⟨rfl,rfl⟩|⟨g0,cap,cur,rfl,hbg,hgg,hnc,hcm,hcs,htake⟩
 · have hxl:xs=[]:=List.eq_nil_of_length_eq_zero (by simpa using hown.1)
   subst hxl
   obtain⟨v2,w2,hr2,q1,_,_⟩:=Lib.run_append_own_string (P:=P) w w.heap.size t u ty e i ht.und hu h2 h3 h4 h5 (.slice none 0 0) 0 [] (World.ownsRow_nil w _ e 1) s h63 hbytes (Nat.le_refl _)
   rw[hr]at hr2
   cases hr2
   rcases q1.2 with⟨hv,_⟩|⟨g2,_,_,hv,hb,_⟩
   ·rw[hv]at hg;cases hg
   ·rw[hv]at hg;simp[Value.ownBlock]at hg;subst hg;exact .inr hb
 · by_cases hroom:n+s.size≤cap
   · have hcs':cur.size=cap:=by simpa using hcs
     have hr2:=Lib.run_append_room_string (P:=P) w t u ty e i ht.und hu h2 h4 g0 n cap cur hgg s hroom (by omega)
     rw[hr]at hr2
     cases hr2
     exact .inl hg
   · have holds:∀j u,xs[j]?=some u→w.cell? ((⟨g0,0,none⟩:Addr).add j)=some u:=hown.cells (g:=g0) rfl
     have hr2:=Lib.run_append_grow_string (P:=P) w t u ty e i (.int .u8 0) ht.und hu h2 h3 ⟨g0,0,none⟩ n cap xs (by rw[h4];simpa using hown.1) holds s (by omega) (by omega) (by rw[h5];exact growslice_fits (by omega) (by omega))
     rw[hr]at hr2
     cases hr2
     simp[Value.ownBlock]at hg
     exact .inr (by omega)
theorem own_blks{w:World}{A:Option Addr}{n cap:Nat}{g:Nat}(h:g∈blks A):(Value.slice A n cap).ownBlock=some g:=by
 obtain⟨ad,rfl,rfl⟩:=mem_blks.1 h
 rfl
theorem Ge.appendStr{A:Option Addr}{n cap i:Nat}{xs:List Value}{s:ByteArray}(ho:o.op= .call {callee:= .builtin .append,args:=#[x,y],argTypes:=#[t,u]})(ht:ByteSl P t e)(hu:P.underlying u=some .string)
    (hx:ev ρ x=some (.slice A n cap)) (hy:ev ρ y=some (.string s)) (hi:Γ[i]?=some (row e 1 A n cap xs)) (hby:n+s.size≤140737488355328):
    Ge P o ρ Γ (fun v Γ'=>∃A' cap',v= .slice A' (n+s.size) cap'∧Γ'=Γ.set i (row e 1 A' (n+s.size) cap' (xs++Lib.strCells s))):=fun a w ha hs=>by
 have hrow:w.ownsRow 0 e 1 (.slice A n cap) n xs:=hs.each _ (mog hi)
 obtain⟨v',w',hrun,h7,h8,h9⟩:=run_append_str (ty:=o.type) ht hu hrow s hby
 obtain⟨A',cap',rfl,_⟩:=own_form h7
 refine⟨_,_,w',?_,⟨A',cap',rfl,rfl⟩,Post.set hi hs ⟨⟨fun c hc=>by rw[List.mem_singleton.1 hc];exact h7,?_,by simp[reads,row]⟩,?_,?_,by simp[reads,row]⟩⟩
 · unfold execOp
   simp only[ho,resolve,invoke,builtin,Sem.run_bind,Sem.run_pure,Result.andThen_ok,List.map_toArray,List.map_cons,List.map_nil,ha.eval hx,ha.eval hy,hrun]
 ·cases A'<;>simp[owns,row,blks]
 · refine h8.mono fun g _ hg=>?_
   cases A with
   |none=>simp[Value.ownBlock]at hg
   |some a'=>simp[Value.ownBlock]at hg;simp[owns,row,blks,hg]
 · intro g hg hl
   have hg':g∈blks A':=by simpa[owns,row]using hg
   rcases h9 g (own_blks (w:=w) hg')with h|h
   · cases A with
     |none=>simp[Value.ownBlock]at h
     |some a'=>simp[Value.ownBlock]at h;simp[owns,row,blks,h]
   ·omega
theorem Mk.appendStr{s:ByteArray}(ho:o.op= .call {callee:= .builtin .append,args:=#[x,y],argTypes:=#[t,u]})(ht:ByteSl P t e)(hu:P.underlying u=some .string)
    (hx:ev ρ x=some (.slice none 0 0)) (hy:ev ρ y=some (.string s)) (hby:s.size≤140737488355328):
    Mk P o ρ Γ (fun v N=>∃A' cap',v= .slice A' s.size cap'∧N=[row e 1 A' s.size cap' (Lib.strCells s)]):=fun a w ha _=>by
 obtain⟨v',w',hrun,h7,h8,h9⟩:=run_append_str (ty:=o.type) ht hu (World.ownsRow_nil w 0 e 1) s (by omega)
 rw[Nat.zero_add,List.nil_append]at h7
 obtain⟨A',cap',rfl,_⟩:=own_form h7
 refine⟨_,_,w',?_,⟨A',cap',rfl,rfl⟩,⟨⟨fun c hc=>by rw[List.mem_singleton.1 hc];exact h7,?_,by simp[reads,row]⟩,?_,?_,by simp[reads,row]⟩⟩
 · unfold execOp
   simp only[ho,resolve,invoke,builtin,Sem.run_bind,Sem.run_pure,Result.andThen_ok,List.map_toArray,List.map_cons,List.map_nil,ha.eval hx,ha.eval hy,hrun]
 ·cases A'<;>simp[owns,row,blks]
 ·exact h8.mono fun _ _ h=>by simp[Value.ownBlock]at h
 · intro g hg hl
   have hg':g∈blks A':=by simpa[owns,row]using hg
   rcases h9 g (own_blks (w:=w) hg')with h|h
   ·simp[Value.ownBlock]at h
   ·omega
theorem Ge.unsafeStr{b n cap i:Nat}{l:List UInt8}{pt it:TypeId}(ho:o.op= .call {callee:= .builtin .unsafeString,args:=#[x,y],argTypes:=#[pt,it]})(hp:P.underlying pt=some (.pointer e))(hc:P.cellsOf e=1)
    (hx:ev ρ x=some (pv b)) (hy:ev ρ y=some (.int .i64 (n:Int))) (hi:Γ[i]?=some (row e 1 (some ⟨b,0,none⟩) n cap (l.map fun z=>Value.int .u8 z.toNat))) (hn:0<n) (hb:n≤140737488355328):
    Ge P o ρ Γ (fun v Γ'=>v= .string ⟨l.toArray⟩∧Γ'=Γ.eraseIdx i):=fun a w ha hs=>by
 have hrow:w.ownsRow 0 e 1 (.slice (some ⟨b,0,none⟩) n cap) n (l.map fun z=>Value.int .u8 z.toNat):=hs.each _ (mog hi)
 have hl:l.length=n:=by have:=hrow.1;simpa using this
 rcases hrow.2 with⟨hv,_⟩|⟨g,cap',cur,hv,_,hgg,hnc,hcm,hcs,htake⟩
 ·cases hv
 simp only[Value.slice.injEq,Option.some.injEq,Addr.mk.injEq]at hv
 obtain⟨⟨rfl,_⟩,_,rfl⟩:=hv
 have hcell:∀j z,l[j]?=some z→w.cell? ((⟨b,0,none⟩:Addr).add j)=some (.int .u8 z.toNat):=fun j z hz=>
  hrow.cells (g:=b) rfl j _ (by rw[List.getElem?_map,hz];rfl)
 have hrun:=Lib.run_unsafeString_row (P:=P) w pt it o.type e hp hc b cur.size (by simp[World.shape?,hgg]) l (by intro h;rw[h]at hl;simp at hl;omega) (by rw[hcs];omega) (by omega) hcell
 rw[hl]at hrun
 have hpm:=perm_eraseIdx hi
 have hs2:=hs.perm hpm
 have hrest:sat (Γ.eraseIdx i) w:=Sep.sat.right (Γ:=[_]) hs2
 have hnb:∀g,g∈owns (Γ.eraseIdx i)∨g∈reads (Γ.eraseIdx i)→g≠b:=by
  intro g hg e0
  subst e0
  have hown:g∈owns [row e 1 (some ⟨g,0,none⟩) n cap (l.map fun z=>Value.int .u8 z.toNat)]:=by simp[owns,row,blks]
  rcases hg with hg|hg
  · have:=hs2.nodup
    rw[show(row e 1 (some ⟨g,0,none⟩) n cap (l.map fun z=>Value.int .u8 z.toNat)::Γ.eraseIdx i)=[row e 1 (some ⟨g,0,none⟩) n cap (l.map fun z=>Value.int .u8 z.toNat)]++Γ.eraseIdx i from rfl,owns_append]at this
    exact(List.nodup_append.1 this).2.2 g hown g hg rfl
  ·exact hs2.apart g (by simp[reads,row];exact mem_reads.1 hg) (by simp[owns,row,blks])
 have hother:∀g,g≠b→(w.freeze ⟨b,0,none⟩ n).heap[g]?=w.heap[g]?:=fun g hg=>by
  unfold World.freeze
  split
  ·rfl
  ·simp[Array.getElem?_modify,Ne.symm hg]
 have hsz:(w.freeze ⟨b,0,none⟩ n).heap.size=w.heap.size:=by
  unfold World.freeze;split<;>simp
 refine⟨_,_,w.freeze ⟨b,0,none⟩ n,?_,⟨rfl,rfl⟩,⟨⟨fun c hc=>?_,hrest.nodup,hrest.apart⟩,⟨?_,?_,?_,Nat.le_of_eq hsz.symm,fun g hg hn=>?_,?_⟩,fun g hg _=>?_,fun g hg _=>?_⟩⟩
 · unfold execOp
   simp only[ho,resolve,invoke,builtin,Sem.run_bind,Sem.run_pure,Result.andThen_ok,List.map_toArray,List.map_cons,List.map_nil,ha.eval hx,ha.eval hy,hrun]
 · refine c.loc w _ (fun g hg=>hother g (hnb g ?_)) (hrest.each c hc)
   exact hg.imp (fun h=>mem_owns.2 ⟨c,hc,h⟩) (fun h=>mem_reads.2 ⟨c,hc,h⟩)
 ·unfold World.freeze;split<;>rfl
 ·unfold World.freeze;split<;>rfl
 ·unfold World.freeze;split<;>rfl
 · refine hother g fun e0=>hn ?_
   subst e0
   exact(hpm.flatMap_right Chunk.owns).mem_iff.2 (by simp[row,blks])
 ·unfold World.freeze;split<;>exact Nat.le_refl _
 ·exact(hpm.flatMap_right Chunk.owns).mem_iff.2 (List.mem_append_right _ hg)
 ·exact .inr ((hpm.flatMap_right Chunk.reads).mem_iff.2 (List.mem_append_right _ hg))
end
def isRange:Nat→Nat→List Nat→Bool
 |_,0,[]=>true
 |i,n+1,j::r=>bif Nat.beq i j then isRange (i+1) n r else false
 |_,_,_=>false
def flatC:List AV→List AV
 |[]=>[]
 |v::r=>cellsA v++flatC r
def replA(zs:List AV):Nat→List AV
 |0=>[]
 |n+1=>zs++replA zs n
def mkA(P:Program)(k:Nat)(ρ:ASlots):Op→Option Res
 | .alloc ty=>match zerosA P ty with
   |some zs=>some (.mk (.ptr k 0) [⟨k, .box ty,zs⟩] (k+1))
   |none=>none
 | .box ty x=>match aev ρ x with
   |some v=>some (.mk (.ptr k 0) [⟨k, .box ty,cellsA v⟩] (k+1))
   |none=>none
 | .buildSlice t len parts=>match sliceI P t,partsA ρ parts.toList with
   |some s,some l=>bif Nat.beq len 0 then(bif parts.toList.isEmpty then some (.mk (.sl k 0 0 0) [⟨k, .row s.e s.size 0 (.kn 0),[]⟩] (k+1))else none)else bif isRange 0 len (l.map (·.1))&&Nat.blt 0 len&&Nat.ble (len*s.size) 16777216&&(l.map (·.2)).all (fun v=>Nat.beq (cellsA v).length s.size)then
       some (.mk (.sl k 0 len len) [⟨k, .row s.e s.size len (.kn len),flatC (l.map (·.2))⟩] (k+1))else none
   |_,_=>none
 | .makeSlice t x y=>match sliceI P t,natA ρ x,natA ρ y with
   | some s,some n,some c=>bif Nat.beq n c then(bif Nat.ble (s.bytes*n) 16777216&&Nat.ble n 16777216 then
       some (.mk (.sl k 0 n n) [⟨k, .row s.e s.size n (.kn n),replA s.zs n⟩] (k+1))else none)
     else bif Nat.beq n 0&&Nat.ble (s.bytes*c) 16777216&&Nat.ble c 16777216 then some (.mk (.sl k 0 0 c) [⟨k, .row s.e s.size 0 (.kn c),[]⟩] (k+1))else none
   |_,_,_=>none
 | .makeMap _ none=>some (.mk (.mp k) [⟨k, .maps [],[]⟩] (k+1))
 |_=>none
def acEq:AC→AC→Bool
 | .kn a, .kn b=>Nat.beq a b
 | .un a b, .un c d=>Nat.beq a c&&Nat.beq b d
 |_,_=>false
def srcA(M:List MC)(size:Nat)(v:AV):Option (Nat×List AV):=
 match v with
 | .nils=>some (0,[])
 | v =>match slv v with
   | some (i,q,l,_)=>match find M i with
     | some (_,c)=>match cellsM c with
       |some cs=>bif Nat.ble (q+l*size) cs.length then some (l,subA cs q (l*size))else none
       |none=>none
     |none=>none
   |none=>none
def fresh:AV→Bool
 | .nils=>true
 | .sl _ _ 0 0=>true
 |_=>false
def strCs(s:List Nat):List AV:=s.map fun b=> .int .u8 (Int.ofNat (b%256))
def ontoA(M:List MC)(v:AV)(e size:Nat):Option (Nat×Nat×Nat×AC×MC):=
 match slv v with
 | some (i,0,n,c)=>match find M i with
   | some (j,b)=>match b.kd with
     | .row e' size' n' c'=>bif Nat.beq e' e&&Nat.beq size' size&&Nat.beq n' n&&acEq c' c then some (j,i,n,c,b)else none
     |_=>none
   |none=>none
 |_=>none
def appA (P : Program)(k:Nat)(ρ:ASlots)(M:List MC):Op→Option Res
 | .call c => match c.callee,c.args.toList,c.argTypes.toList with
   | .builtin .append,[x,y],[t,t']=>match aev ρ x,aev ρ y with
     | some v,some (.str s)=>match byteSl P t with
       | some e=>bif strTy P t'&&Nat.beq s.length 0 then(match v with
         | .nils=>some (.val .nils)
         | v=>match slv v with
           |some (_,_,l,c)=>bif Nat.ble l (capLo c)then some (.val v)else none
           |none=>none)else
         bif strTy P t'&&Nat.ble s.length 16777216&&Nat.blt 0 s.length then(match v with
         | .nils=>some (.mk (.slu k 0 s.length (k+1) s.length) [⟨k, .row e 1 s.length (.un (k+1) s.length),strCs s⟩] (k+2))
         | v=>match ontoA M v e 1 with
           |some (j,_,n,_,b)=>bif Nat.ble n 16777216 then some (.ge (.slu k 0 (n+s.length) (k+1) (n+s.length)) (M.set j ⟨k, .row e 1 (n+s.length) (.un (k+1) (n+s.length)),b.cs++strCs s⟩) (k+2))else none
           |none=>none)else none
       |none=>none
     | some v,some u=>match sliceI P t with
       | some s =>match srcA M s.size u with
         | some (m,us)=>bif Nat.beq t t'&&us.all one&&Nat.beq us.length (m*s.size)&&Nat.ble (m*s.bytes) 16777216&&Nat.ble m 16777216 then
             bif Nat.beq m 0 then(match v with
              | .nils=>some (.val .nils)
              | v=>match slv v with
                |some (_,_,l,c)=>bif Nat.ble l (capLo c)then some (.val v)else none
                |none=>none)
             else bif fresh v then some (.mk (.slu k 0 m (k+1) m) [⟨k, .row s.e s.size m (.un (k+1) m),us⟩] (k+2))
             else(match ontoA M v s.e s.size with
              |some (j,_,n,_,b)=>bif Nat.ble ((n+m)*s.bytes) 16777216&&Nat.ble n 16777216 then some (.ge (.slu k 0 (n+m) (k+1) (n+m)) (M.set j ⟨k, .row s.e s.size (n+m) (.un (k+1) (n+m)),b.cs++us⟩) (k+2))else none
              |none=>none)
           else none
         |none=>none
       |none=>none
     |_,_=>none
   |_,_,_=>none
 |_=>none
def ustrA (P:Program)(k:Nat)(ρ:ASlots)(M:List MC):Op→Option Res
 | .call c =>match c.callee,c.args.toList,c.argTypes.toList with
   | .builtin .unsafeString,[x,y],[pt,_]=>match aev ρ x,aev ρ y,P.underlying pt with
     | some (.ptr i 0),some (.int .i64 (.ofNat n)),some (.pointer e)=>match find M i with
       | some (j,b)=>match b.kd with
         | .row e' size n' _=>bif Nat.beq e' e&&Nat.beq size 1&&Nat.beq n' n&&Nat.beq (P.cellsOf e) 1&&Nat.blt 0 n&&Nat.ble n 16777216 then(match lettersA b.cs with
           |some s=>some (.ge (.str s) (M.eraseIdx j) k)
           |none=>none)else none
         |_=>none
       |none=>none
     |_,_,_=>none
   |_,_,_=>none
 |_=>none
where
 lettersA:List AV→Option (List Nat)
  |[]=>some []
  | .int .u8 (.ofNat b)::r=>match lettersA r with
    |some l=>bif Nat.blt b 256 then some (b::l)else none
    |none=>none
  |_=>none
section
variable{P:Program}{o:Oper}{ρ:ASlots}{M M':List MC}{σ:Nat→Nat}{v:AV}{k:Nat}{r:Res}
def upd(σ:Nat→Nat)(k b:Nat):Nat→Nat:=fun i=>if i=k then b else σ i
theorem upd_sup{b:Nat}:Sup k σ (upd σ k b):=fun i hi=>by unfold upd;rw[if_neg (by omega)]
theorem upd_at{b:Nat}:upd σ k b k=b:=by unfold upd;rw[if_pos rfl]
theorem bl_upd{b:Nat}(hk:4096≤k):bl (upd σ k b) k=b:=by
 unfold bl
 have:Nat.blt k 4096=false:=by
  cases h:Nat.blt k 4096 with
  |false=>rfl
  |true=>have:=Nat.le_of_ble_eq_true h;omega
 rw[this];exact upd_at
theorem Sup.trans{k':Nat}{σ σ' σ'':Nat→Nat}(hk:k≤k')(h:Sup k σ σ')(h':Sup k' σ' σ''):Sup k σ σ'':=fun i hi=>(h i hi).trans (h' i (Nat.lt_of_lt_of_le hi hk))
theorem upd2_sup{b c:Nat}:Sup k σ (upd (upd σ k b) (k+1) c):=fun i hi=>by unfold upd;rw[if_neg (by omega),if_neg (by omega)]
theorem bl_upd2{b c:Nat}(hk:4096≤k):bl (upd (upd σ k b) (k+1) c) k=b:=by
 rw[←bl_ext (k:=k+1) (fun i hi=>(upd_sup (σ:=upd σ k b) (k:=k+1) (b:=c)) i hi) (Nat.lt_succ_self k)]
 exact bl_upd hk
theorem upd2_at{b c:Nat}:upd (upd σ k b) (k+1) c (k+1)=c:=upd_at
theorem isRange_ok:∀{n i:Nat} {l:List Nat},isRange i n l=true→l=List.range' i n
 |0,_,[],_=>rfl
 |0,_,_::_,h=>by cases h
 |_+1,_,[],h=>by cases h
 | n +1,i,j::r,h=>by
   unfold isRange at h
   cases hb:Nat.beq i j with
   |false=>rw[hb]at h;cases h
   | true=>
     rw[hb]at h
     rw[List.range'_succ,←Nat.eq_of_beq_eq_true hb,←isRange_ok h]
theorem flatC_val:∀l:List AV,vals σ (flatC l)=(vals σ l).flatMap fun v=>v.cells.toList
 |[]=>rfl
 | v::r=>by
   show vals σ (cellsA v++flatC r)=((val σ v)::vals σ r).flatMap _
   rw[List.flatMap_cons,←flatC_val r,cellsA_val,vals_map,List.map_append,←vals_map,←vals_map]
theorem flatC_bel:∀{l:List AV},(∀v∈l,bel k v)→bels k (flatC l)
 |[],_=>by simp only[flatC,bels]
 | v::r,h=>by
   rw[bels_iff]
   intro z hz
   rcases List.mem_append.1 (show z∈cellsA v++flatC r from hz)with hz|hz
   ·exact bels_iff.1 (cellsA_bel (h v (List.mem_cons_self ..))) z hz
   ·exact bels_iff.1 (flatC_bel fun v hv=>h v (List.mem_cons_of_mem _ hv)) z hz
theorem replA_val{zs:List AV}:∀n,vals σ (replA zs n)=(List.replicate n (vals σ zs)).flatten
 |0=>rfl
 | n+1=>by
   show vals σ (zs++replA zs n)=_
   rw[List.replicate_succ,List.flatten_cons,←replA_val n,vals_map,List.map_append,←vals_map,←vals_map]
theorem replA_bel{zs:List AV}(h:bels k zs):∀n,bels k (replA zs n)
 |0=>by simp only[replA,bels]
 | n+1=>by
   rw[bels_iff]
   intro z hz
   rcases List.mem_append.1 (show z∈zs++replA zs n from hz)with hz|hz
   ·exact bels_iff.1 h z hz
   ·exact bels_iff.1 (replA_bel h n) z hz
theorem Mk.mono{R R':Value→List Chunk→Prop}{ρ:Slots}{Γ:List Chunk}(h:Mk P o ρ Γ R)(hr:∀v N w,R v N→sat N w→R' v N):Mk P o ρ Γ R':=fun a w ha hs=>by
 obtain⟨v,N,w',h1,h2,h3⟩:=h a w ha hs
 exact⟨v,N,w',h1,hr v N w' h2 h3.sat,h3⟩
theorem Ge.mono{R R':Value→List Chunk→Prop}{ρ:Slots}{Γ:List Chunk}(h:Ge P o ρ Γ R)(hr:∀v N w,R v N→sat N w→R' v N):Ge P o ρ Γ R':=fun a w ha hs=>by
 obtain⟨v,N,w',h1,h2,h3⟩:=h a w ha hs
 exact⟨v,N,w',h1,hr v N w' h2 h3.sat,h3⟩
theorem Mk.lit0{t e:TypeId}{size bytes:Nat}{zs:List Value}{ρ:Slots}{Γ:List Chunk}(ho:o.op= .buildSlice t 0 #[])(ht:SliceTy P t e size bytes zs):Mk P o ρ Γ (fun v N=>∃b,v= .slice (some ⟨b,0,none⟩) 0 0∧N=[row e size (some ⟨b,0,none⟩) 0 0 []]):=fun a w _ _=>by
 refine⟨_,_,w.alloc (.cells #[] e),?_,⟨w.heap.size,rfl,rfl⟩,Post.new (row_new (us:=[]) (by simp) (by simp[maxLen])) rfl rfl⟩
 obtain⟨i,z,h1,h2,h3,_⟩:=ht.inf
 unfold execOp
 simp[ho,Instr.buildSlice,run_underlying ht.und,sizeOf,typeInfo,h1,Instr.fill,newRow]
 rw[show Array.map (fun(_:Nat)=>(default:Value)) (Array.range 0)=#[]from Array.eq_empty_of_size_eq_zero (by simp)]
theorem mkA_ok(hk:4096≤k)(hb:belS k ρ)(h:mkA P k ρ o.op=some r):ResOk P o ρ M k r:=by
 generalize ho:o.op=op at h
 have hup:∀{cs:List AV},bels k cs→∀σ b,vals (upd σ k b) cs=vals σ cs:=fun hc σ b=>(vals_ext (fun i hi=>(upd_sup (σ:=σ) (b:=b)) i hi) _ hc).symm
 unfold mkA at h
 split at h
 · rename_i ty
   split at h
   · rename_i zs hz
     cases h
     have hbz:=bels_zerosA (k:=k) hz
     refine⟨Nat.le_succ _,by simp only[bel];omega,fun c hc=>?_,fun σ=>Mk.mono (Mk.alloc ho (zerosA_ok hz σ)) ?_⟩
     ·rw[List.mem_singleton.1 hc];exact⟨Nat.lt_succ_self _,trivial,bels_up (Nat.le_succ _) _ hbz⟩
     · rintro _ _ w ⟨b,rfl,rfl⟩ _
       refine⟨upd σ k b,upd_sup,by simp only[val,bl_upd hk],?_⟩
       simp only[mem,ck,List.map_cons,List.map_nil,bl_upd hk,hup hbz]
   ·cases h
 · rename_i ty x
   split at h
   · rename_i u hx
     cases h
     have hbz:=cellsA_bel (bel_aev hk hb hx)
     refine⟨Nat.le_succ _,by simp only[bel];omega,fun c hc=>?_,fun σ=>Mk.mono (Mk.box ho (ev_inst hx) cellsA_val) ?_⟩
     ·rw[List.mem_singleton.1 hc];exact⟨Nat.lt_succ_self _,trivial,bels_up (Nat.le_succ _) _ hbz⟩
     · rintro _ _ w ⟨b,rfl,rfl⟩ _
       refine⟨upd σ k b,upd_sup,by simp only[val,bl_upd hk],?_⟩
       simp only[mem,ck,List.map_cons,List.map_nil,bl_upd hk,hup hbz]
   ·cases h
 · rename_i t len parts
   split at h
   · rename_i s l hs hl
     cases h00:Nat.beq len 0 with
     | true=>
       rw[h00]at h;simp only[cond_true]at h
       have e00:=Nat.eq_of_beq_eq_true h00
       subst e00
       cases hpe:parts.toList.isEmpty with
       |false=>rw[hpe]at h;cases h
       | true=>
         rw[hpe]at h;cases h
         have ep:parts=#[]:=by rw[←Array.toList_inj];exact List.isEmpty_iff.1 hpe
         subst ep
         refine⟨Nat.le_succ _,by simp only[bel];omega,fun c hc=>?_,fun σ=>Mk.mono (Mk.lit0 ho (sliceI_ok hs σ)) ?_⟩
         ·rw[List.mem_singleton.1 hc];exact⟨Nat.lt_succ_self _,trivial,by simp only[bels]⟩
         · rintro _ _ w ⟨b,rfl,rfl⟩ _
           refine⟨upd σ k b,upd_sup,by simp only[val,bl_upd hk],?_⟩
           simp only[mem,ck,cp,List.map_cons,List.map_nil,bl_upd hk,vals]
     |false=>
     rw[h00]at h;simp only[cond_false]at h
     cases hq:(isRange 0 len (l.map (·.1))&&Nat.blt 0 len&&Nat.ble (len*s.size) 16777216&&(l.map (·.2)).all (fun v=>Nat.beq (cellsA v).length s.size))with
     |false=>rw[hq]at h;cases h
     | true=>
       rw[hq]at h;cases h
       simp only[Bool.and_eq_true]at hq
       obtain⟨⟨⟨h1,h2⟩,h3⟩,h4⟩:=hq
       have hbl:=partsA_bel hk hb hl
       have hbz:bels k (flatC (l.map (·.2))):=flatC_bel fun v hv=>by
        obtain⟨p,hp,rfl⟩:=List.mem_map.1 hv
        exact hbl p hp
       refine⟨Nat.le_succ _,by simp only[bel];omega,fun c hc=>?_,fun σ=>?_⟩
       ·rw[List.mem_singleton.1 hc];exact⟨Nat.lt_succ_self _,trivial,bels_up (Nat.le_succ _) _ hbz⟩
       · obtain⟨g1,g2⟩:=partsA_ok (σ:=σ) hl
         have e1:(l.map fun p=>(p.1,val σ p.2)).map (·.2)=vals σ (l.map (·.2)):=by rw[vals_map,List.map_map,List.map_map];rfl
         have e2:(l.map fun p=>(p.1,val σ p.2)).map (·.1)=l.map (·.1):=by rw[List.map_map];rfl
         rw[e1]at g1
         rw[e2]at g2
         refine Mk.mono (Mk.sN (parts:=parts.toList) (us:=vals σ (flatC (l.map (·.2)))) (by rw[ho]) (sliceI_ok hs σ) g1 (by rw[g2,isRange_ok h1]) h2 h3 ?_ (flatC_val _).symm) ?_
         · rw[vals_map,List.all_map,List.all_eq_true]
           intro v hv
           have:=List.all_eq_true.1 h4 v hv
           show Nat.beq (val σ v).cells.size s.size=true
           rw[cellsA_val];simpa[vals_len]using this
         · rintro _ _ w ⟨b,rfl,rfl⟩ _
           refine⟨upd σ k b,upd_sup,by simp only[val,bl_upd hk],?_⟩
           simp only[mem,ck,cp,List.map_cons,List.map_nil,bl_upd hk,hup hbz]
   ·cases h
 · rename_i t x y
   split at h
   · rename_i s n c hs hx hy
     have hbz:=bels_sliceI (k:=k) hs
     cases hq:Nat.beq n c with
     | true=>
       rw[hq]at h;simp only[cond_true]at h
       have e:=Nat.eq_of_beq_eq_true hq
       subst e
       cases hq2:(Nat.ble (s.bytes*n) 16777216&&Nat.ble n 16777216)with
       |false=>rw[hq2]at h;cases h
       | true=>
         rw[hq2]at h;cases h
         rw[Bool.and_eq_true]at hq2
         have g1:=Nat.le_of_ble_eq_true hq2.1
         have g2:=Nat.le_of_ble_eq_true hq2.2
         have hbr:=replA_bel hbz n
         refine⟨Nat.le_succ _,by simp only[bel];omega,fun c hc=>?_,fun σ=>?_⟩
         ·rw[List.mem_singleton.1 hc];exact⟨Nat.lt_succ_self _,trivial,bels_up (Nat.le_succ _) _ hbr⟩
         · obtain⟨kl,hx'⟩:=natA_ev (σ:=σ) hx
           obtain⟨kc,hy'⟩:=natA_ev (σ:=σ) hy
           have ht:=sliceI_ok hs σ
           refine Mk.mono (Mk.makeN ho ht hx' hy' (by omega) (by simp only[maxLen];omega)) ?_
           rintro _ _ w ⟨b,rfl,rfl⟩ _
           refine⟨upd σ k b,upd_sup,by simp only[val,bl_upd hk],?_⟩
           simp only[mem,ck,cp,List.map_cons,List.map_nil,bl_upd hk,hup hbr]
           rw[madeCells_listN _ _ _ ht.len ht.pos,replA_val]
     | false=>
       rw[hq]at h;simp only[cond_false]at h
       cases hq2:(Nat.beq n 0&&Nat.ble (s.bytes*c) 16777216&&Nat.ble c 16777216)with
       |false=>rw[hq2]at h;cases h
       | true=>
         rw[hq2]at h;cases h
         simp only[Bool.and_eq_true]at hq2
         obtain⟨⟨g0,g1⟩,g2⟩:=hq2
         have g1:=Nat.le_of_ble_eq_true g1
         have g2:=Nat.le_of_ble_eq_true g2
         have e:=Nat.eq_of_beq_eq_true g0
         subst e
         refine⟨Nat.le_succ _,by simp only[bel];omega,fun c hc=>?_,fun σ=>?_⟩
         ·rw[List.mem_singleton.1 hc];exact⟨Nat.lt_succ_self _,trivial,by simp only[bels]⟩
         · obtain⟨kl,hx'⟩:=natA_ev (σ:=σ) hx
           obtain⟨kc,hy'⟩:=natA_ev (σ:=σ) hy
           refine Mk.mono (Mk.make0 ho (sliceI_ok hs σ) hx' hy' (by omega) (by simp only[maxLen];omega)) ?_
           rintro _ _ w ⟨b,rfl,rfl⟩ _
           refine⟨upd σ k b,upd_sup,by simp only[val,bl_upd hk],?_⟩
           simp only[mem,ck,cp,List.map_cons,List.map_nil,bl_upd hk,vals]
   ·cases h
 · cases h
   refine⟨Nat.le_succ _,by simp only[bel];omega,fun c hc=>?_,fun σ=>Mk.mono (Mk.makeMapOwn (fun b:ByteArray=> .string b) (fun v:Value=>v) ho) ?_⟩
   ·rw[List.mem_singleton.1 hc];exact⟨Nat.lt_succ_self _,(fun p hp=>by cases hp),by simp only[bels]⟩
   · rintro _ _ w ⟨b,rfl,rfl⟩ _
     refine⟨upd σ k b,upd_sup,by simp only[val,bl_upd hk],?_⟩
     simp only[mem,ck,List.map_cons,List.map_nil,bl_upd hk,prs]
 ·cases h
end
section
variable{P:Program}{o:Oper}{ρ:ASlots}{M M':List MC}{σ:Nat→Nat}{v:AV}{k:Nat}{r:Res}
theorem acEq_ok{a b:AC}(h:acEq a b=true):a=b:=by
 cases a<;>cases b<;>first|(cases h;done)|skip
 ·simp only[acEq]at h;rw[Nat.eq_of_beq_eq_true h]
 ·simp only[acEq,Bool.and_eq_true]at h;rw[Nat.eq_of_beq_eq_true h.1,Nat.eq_of_beq_eq_true h.2]
theorem src_gives{c:MC}{cs:List AV}(hc:cellsM c=some cs){i j:Nat}(hf:find M i=some (j,c))(q n:Nat):∀w,oks (mem σ M) w→Src w (some ⟨bl σ i,q,none⟩) (vals σ (subA cs q n)):=fun w hw=>by
 have h:=ck_gives (σ:=σ) hc q n w (hw _ (mog (mem_at (σ:=σ) hf)))
 rw[(find_get hf).2]at h
 exact .inr ⟨_,_,rfl,h⟩
theorem srcA_ok{size:Nat}{u:AV}{m:Nat}{us:List AV}(h:srcA M size u=some (m,us)):∃A:(Nat→Nat)→Option Addr,∃c:(Nat→Nat)→Nat,∀σ,val σ u= .slice (A σ) m (c σ)∧∀w,oks (mem σ M) w→Src w (A σ) (vals σ us):=by
 unfold srcA at h
 split at h
 · cases h
   exact⟨fun _=>none,fun _=>0,fun σ=>⟨by simp only[val],fun w _=> .inl rfl⟩⟩
 · split at h
   · rename_i i q l c hs
     split at h
     · rename_i j b hf
       split at h
       · rename_i cs hc
         cases hb:Nat.ble (q+l*size) cs.length with
         |false=>rw[hb]at h;cases h
         | true=>
           rw[hb]at h;cases h
           exact⟨fun σ=>some ⟨bl σ i,q,none⟩,fun σ=>cp σ c,fun σ=>⟨slv_val hs,src_gives hc hf q _⟩⟩
       ·cases h
     ·cases h
   ·cases h
theorem srcA_bel{size:Nat}{u:AV}{m:Nat}{us:List AV}(h:srcA M size u=some (m,us))(hM:belM k M):bels k us:=by
 unfold srcA at h
 split at h
 ·cases h;simp only[bels]
 · split at h
   · split at h
     · rename_i j b hf
       split at h
       · rename_i cs hc
         cases hb:Nat.ble _ cs.length with
         |false=>rw[hb]at h;cases h
         |true=>rw[hb]at h;cases h;exact bels_sub (cellsM_bel hc (hM b (find_mem hf)))
       ·cases h
     ·cases h
   ·cases h
theorem ontoA_ok{e size j i n:Nat}{c:AC}{b:MC}(h:ontoA M v e size=some (j,i,n,c,b)):find M i=some (j,b)∧b.kd= .row e size n c∧∀σ,val σ v= .slice (some ⟨bl σ i,0,none⟩) n (cp σ c):=by
 unfold ontoA at h
 split at h
 · rename_i i' n' c' hs
   split at h
   · rename_i j' b' hf
     split at h
     · rename_i e2 size2 n2 c2 hk
       cases hq:(Nat.beq e2 e&&Nat.beq size2 size&&Nat.beq n2 n'&&acEq c2 c')with
       |false=>rw[hq]at h;cases h
       | true=>
         rw[hq]at h;cases h
         simp only[Bool.and_eq_true]at hq
         obtain⟨⟨⟨h1,h2⟩,h3⟩,h4⟩:=hq
         rw[Nat.eq_of_beq_eq_true h1,Nat.eq_of_beq_eq_true h2,Nat.eq_of_beq_eq_true h3,acEq_ok h4]at hk
         exact⟨hf,hk,fun σ=>slv_val hs⟩
     ·cases h
   ·cases h
 ·cases h
theorem fresh_ok(h:fresh v=true):∃A:(Nat→Nat)→Option Addr,∀σ,val σ v= .slice (A σ) 0 0:=by
 unfold fresh at h
 split at h
 ·exact⟨fun _=>none,fun σ=>by simp only[val]⟩
 ·rename_i i q;exact⟨fun σ=>some ⟨bl σ i,q,none⟩,fun σ=>by simp only[val]⟩
 ·cases h
theorem strCs_val{s:List Nat}:Lib.strCells (bytesOf s)=vals σ (strCs s):=by
 unfold Lib.strCells bytesOf strCs
 rw[vals_map]
 simp[List.map_map,Function.comp_def,val]
theorem strCs_bel{s:List Nat}:bels k (strCs s):=by
 rw[bels_iff]
 intro z hz
 obtain⟨b,_,rfl⟩:=List.mem_map.1 hz
 simp only[bel]
theorem bels_app{a b:List AV}(h1:bels k a)(h2:bels k b):bels k (a++b):=by
 rw[bels_iff]at h1 h2⊢
 exact fun z hz=>(List.mem_append.1 hz).elim (h1 z) (h2 z)
theorem outRow(hk:4096≤k){e size n:Nat}{cs:List AV}(hcs:bels k cs)(hn:0<n){u:Value}{N:List Chunk}{w:World}{xs:List Value}(hx:∀σ',Sup k σ σ'→vals σ' cs=xs)(h:∃A' cap',u= .slice A' n cap'∧N=[Sep.row e size A' n cap' xs])(hs:sat N w):
    Outs k σ (.slu k 0 n (k+1) n) [⟨k, .row e size n (.un (k+1) n),cs⟩] u N:=by
 obtain⟨A',cap',rfl,rfl⟩:=h
 have hrow:w.ownsRow 0 e size (.slice A' n cap') n xs:=hs.each _ (List.mem_cons_self ..)
 have hA:=own_some hrow hn
 obtain⟨A2,cap2,h1,_,h2,_⟩:=own_form hrow
 cases h1
 refine⟨upd (upd σ k (blk A')) (k+1) (cap'-n),upd2_sup,?_,?_⟩
 · simp only[val,bl_upd2 hk,upd2_at]
   rw[show n+(cap'-n)=cap' by omega,←hA]
 · simp only[mem,ck,cp,List.map_cons,List.map_nil,bl_upd2 hk,upd2_at]
   rw[show n+(cap'-n)=cap' by omega,←hA,hx _ upd2_sup]
theorem bel_row{e size n:Nat}{cs:List AV}(hcs:bels k cs):belMC (k+2) ⟨k, .row e size n (.un (k+1) n),cs⟩:=⟨by show k<k+2;omega,by show k+1<k+2;omega,bels_up (by omega) _ hcs⟩
theorem outGrown(hk:4096≤k){e size n j:Nat}{cs:List AV}(hM:belM k M)(hj:j<M.length)(hcs:bels k cs)(hn:0<n){u:Value}{Γ:List Chunk}{w:World}(h:∃A' cap',u= .slice A' n cap'∧Γ=(mem σ M).set j (Sep.row e size A' n cap' (vals σ cs)))(hs:sat Γ w):
    Outs k σ (.slu k 0 n (k+1) n) (M.set j ⟨k, .row e size n (.un (k+1) n),cs⟩) u Γ:=by
 obtain⟨A',cap',rfl,rfl⟩:=h
 have hmem:Sep.row e size A' n cap' (vals σ cs)∈(mem σ M).set j (Sep.row e size A' n cap' (vals σ cs)):=List.mem_iff_getElem?.2 ⟨j,by simp[mem,hj]⟩
 have hrow:w.ownsRow 0 e size (.slice A' n cap') n (vals σ cs):=hs.each _ hmem
 have hA:=own_some hrow hn
 obtain⟨A2,cap2,h1,_,h2,_⟩:=own_form hrow
 cases h1
 refine⟨upd (upd σ k (blk A')) (k+1) (cap'-n),upd2_sup,?_,?_⟩
 · simp only[val,bl_upd2 hk,upd2_at]
   rw[show n+(cap'-n)=cap' by omega,←hA]
 · rw[mem_set,←mem_ext (fun i hi=>(upd2_sup (σ:=σ) (b:=blk A') (c:=cap'-n)) i hi) hM]
   congr 1
   simp only[ck,cp,bl_upd2 hk,upd2_at]
   rw[show n+(cap'-n)=cap' by omega,←hA,←vals_ext (fun i hi=>(upd2_sup (σ:=σ) (b:=blk A') (c:=cap'-n)) i hi) _ hcs]
theorem find_lt{i j:Nat}{c:MC}(h:find M i=some (j,c)):j<M.length:=(List.getElem?_eq_some_iff.1 (find_get h).1).1
theorem all_oneV{us:List AV}(h:us.all one=true):∀u∈vals σ us,u.oneCell'=true:=List.all_eq_true.1 (all_one h)
theorem Mk.appendRaw{t e:TypeId}{size bytes m cb:Nat}{zs xs:List Value}{A B:Option Addr}{ρ:Slots}{Γ:List Chunk}{x y:Operand}(ho:o.op= .call {callee:= .builtin .append,args:=#[x,y],argTypes:=#[t,t]})(ht:SliceTy P t e size bytes zs)
    (hx:ev ρ x=some (.slice A 0 0)) (hy:ev ρ y=some (.slice B m cb)) (hs:∀w,oks Γ w→Src w B xs) (hl:xs.length=m*size) (h1:∀u∈xs,u.oneCell'=true) (h0:0<m) (h63:m≤16777216) (hby:m*bytes≤16777216):
    Mk P o ρ Γ (fun v N=>∃A' cap',v= .slice A' m cap'∧N=[Sep.row e size A' m cap' xs]):=fun a w ha hG=>by
 obtain⟨it,zv,h2,h3,h4,h5,h6⟩:=ht.inf
 have hsrc:=hs w hG
 have hnil:w.ownsRow 0 e size (.slice none 0 0) 0 []:=World.ownsRow_nil w 0 e size
 obtain⟨v',w',hrun,h7,h8,h9⟩:=run_append_from (P:=P) w 0 t o.type e it zv size bytes ht.und h2 h3 h4 h5 (by rw[h6];simpa using ht.len) ht.pos _ 0 [] hnil B m cb xs hl hsrc h1 (by simp only[maxLen];omega) (by rw[Nat.zero_add];omega) (Nat.zero_le _)
 have hrun2:(Builtin.append_ #[t,t] o.type #[.slice A 0 0, .slice B m cb]).run P w= .ok v' w':=by
  rw[←hrun]
  cases A with
  |none=>rfl
  | some b=>
    rcases hsrc with h|⟨g,off,rfl,hr⟩
    · have hp:=ht.pos
      have:0<m*size:=Nat.mul_pos h0 hp
      rw[h]at hl
      simp at hl;omega
    ·exact append_empty_eq ht.und h2 h3 b ⟨g,off,none⟩ m cb xs (by rw[hl,h4]) (fun j v hv=>by rw[Addr.add_mid];exact hr j v hv) h0 (by omega) (by rw[h5];omega)
 rw[Nat.zero_add,List.nil_append]at h7
 obtain⟨A',cap',rfl,_⟩:=own_form h7
 have hnew:∀g,g∈blks A'→g=w.heap.size:=fun g hg=>by
  obtain⟨ad,rfl,rfl⟩:=mem_blks.1 hg
  rcases h9 with h9|h9
  ·simp[Value.ownBlock]at h9
  ·simp[Value.ownBlock]at h9;exact h9
 refine⟨_,_,w',?_,⟨A',cap',rfl,rfl⟩,⟨⟨fun c hc=>by rw[List.mem_singleton.1 hc];exact h7,by cases A'<;>simp[owns,row,blks],by simp[reads,row]⟩,h8.mono fun _ _ h=>by simp[Value.ownBlock]at h,fun g hg hl=>?_,by simp[reads,row]⟩⟩
 · unfold execOp
   simp only[ho,resolve,invoke,builtin,Sem.run_bind,Sem.run_pure,Result.andThen_ok,List.map_toArray,List.map_cons,List.map_nil,ha.eval hx,ha.eval hy,hrun2]
 · have:g∈blks A':=by simpa[owns,row]using hg
   have:=hnew g this;omega
theorem Rd.appendStr0{t u:TypeId}{e:Nat}{s:ByteArray}{A:Option Addr}{n cap:Nat}{ρ:Slots}{Γ:List Chunk}{x y:Operand}(ho:o.op= .call {callee:= .builtin .append,args:=#[x,y],argTypes:=#[t,u]})(ht:ByteSl P t e)(hu:P.underlying u=some .string)
    (hx:ev ρ x=some (.slice A n cap)) (hy:ev ρ y=some (.string s)) (hs:s.size=0) (hc:n≤cap):Rd P o ρ Γ (.slice A n cap):=fun a w ha _=>by
 have hs2:s=bE:=by
  obtain⟨l⟩:=s
  have:l=#[]:=Array.eq_empty_of_size_eq_zero hs
  subst this;rfl
 subst hs2
 have:(Builtin.append_ #[t,u] o.type #[.slice A n cap, .string bE]).run P w= .ok (.slice A n cap) w:=by
  obtain⟨i,h2,h3,h4,h5⟩:=ht.inf
  cases A<;>simp[Builtin.append_,run_underlying ht.und,run_underlying hu,sizeOf,typeInfo,h2,Builtin.lenOf,Builtin.firstCells,hc,storeCells,loadCells,loadCellsFrom]
 unfold execOp
 simp only[ho,resolve,invoke,builtin,Sem.run_bind,Sem.run_pure,Result.andThen_ok,List.map_toArray,List.map_cons,List.map_nil,ha.eval hx,ha.eval hy,this]
theorem one2{as:Array Operand}{x y:Operand}(h:as.toList=[x,y]):as=#[x,y]:=by rw[←Array.toList_inj];exact h
theorem one2t{as:Array TypeId}{x y:TypeId}(h:as.toList=[x,y]):as=#[x,y]:=by rw[←Array.toList_inj];exact h
theorem appA_ok (hk:4096≤k)(hb:belS k ρ)(hM:belM k M)(h:appA P k ρ M o.op=some r):ResOk P o ρ M k r:=by
 generalize ho:o.op=op at h
 unfold appA at h
 split at h
 · rename_i c
   obtain⟨cl,as,ts⟩:=c
   simp only at h
   split at h
   · rename_i x y t t' h1 h2
     have e1:=one2 h1
     have e2:=one2t h2
     subst e1 e2
     split at h
     -- a word's letters
     · rename_i v s hx hy
       split at h
       · rename_i e hbs
         have hB:=byteSl_ok hbs
         cases hz:(strTy P t'&&Nat.beq s.length 0)with
         | true=>
           rw[hz]at h;simp only[cond_true]at h
           simp only[Bool.and_eq_true]at hz
           obtain⟨q1,q2⟩:=hz
           have q2:=Nat.eq_of_beq_eq_true q2
           split at h
           · cases h
             refine⟨by simp only[bel],fun σ=>?_⟩
             simp only[val]
             exact Rd.appendStr0 ho hB (strTy_ok q1) (evv (σ:=σ) hx) (evv (σ:=σ) hy) (by rw[bytes_size];exact q2) (Nat.le_refl _)
           · split at h
             · rename_i l c hsv
               cases hl:Nat.ble l (capLo c)with
               |false=>rw[hl]at h;cases h
               | true=>
                 rw[hl]at h;cases h
                 have hl:=Nat.le_of_ble_eq_true hl
                 refine⟨bel_aev hk hb hx,fun σ=>?_⟩
                 have:=capLo_le (σ:=σ) (c:=c)
                 rw[slv_val hsv]
                 exact Rd.appendStr0 ho hB (strTy_ok q1) (evsl hx hsv) (evv (σ:=σ) hy) (by rw[bytes_size];exact q2) (by omega)
             ·cases h
         |false=>
         rw[hz]at h;simp only[cond_false]at h
         cases hq:(strTy P t'&&Nat.ble s.length 16777216&&Nat.blt 0 s.length)with
         |false=>rw[hq]at h;cases h
         | true=>
           rw[hq]at h;simp only[cond_true]at h
           simp only[Bool.and_eq_true]at hq
           obtain⟨⟨q1,q2⟩,q3⟩:=hq
           have q2:=Nat.le_of_ble_eq_true q2
           have q3:=Nat.le_of_ble_eq_true q3
           split at h
           · cases h
             refine⟨by omega,by simp only[bel];omega,fun c hc=>by rw[List.mem_singleton.1 hc];exact bel_row strCs_bel,fun σ=>?_⟩
             have:=Mk.appendStr (Γ:=mem σ M) ho hB (strTy_ok q1) (evv (σ:=σ) hx) (evv (σ:=σ) hy) (by rw[bytes_size];omega)
             rw[bytes_size]at this
             exact Mk.mono this fun u N w hR hs=>outRow hk strCs_bel q3 (fun σ' _=>(strCs_val (σ:=σ') (s:=s)).symm) hR hs
           · split at h
             · rename_i j i n c b hon
               cases hn:Nat.ble n 16777216 with
               |false=>rw[hn]at h;cases h
               | true=>
                 rw[hn]at h;cases h
                 have hn:=Nat.le_of_ble_eq_true hn
                 obtain⟨g1,g2,g3⟩:=ontoA_ok hon
                 have hbb:=hM b (find_mem g1)
                 have hcs:bels k (b.cs++strCs s):=bels_app hbb.cs strCs_bel
                 refine⟨by omega,by simp only[bel];omega,belM_set (belM_up (by omega) hM) (bel_row hcs),fun σ=>?_⟩
                 have hat:=mem_at (σ:=σ) g1
                 have e3:ck σ b=Sep.row e 1 (some ⟨bl σ i,0,none⟩) n (cp σ c) (vals σ b.cs):=by unfold ck;rw[g2,(find_get g1).2]
                 rw[e3]at hat
                 have hx':ev (inst σ ρ) x=some (.slice (some ⟨bl σ i,0,none⟩) n (cp σ c)):=by rw[ev_inst (σ:=σ) hx,g3]
                 have:=Ge.appendStr (Γ:=mem σ M) ho hB (strTy_ok q1) hx' (evv (σ:=σ) hy) hat (by rw[bytes_size];omega)
                 rw[bytes_size,strCs_val (σ:=σ)]at this
                 refine Ge.mono this fun u N w hR hs=>outGrown hk hM (find_lt g1) hcs (by omega) ?_ hs
                 obtain⟨A',cap',r1,r2⟩:=hR
                 exact⟨A',cap',r1,by rw[r2,vals_map,vals_map,vals_map,List.map_append]⟩
             ·cases h
       ·cases h
     -- elements of a slice
     · rename_i v u _ hx hy
       split at h
       · rename_i s hs
         split at h
         · rename_i m us hsrc
           cases hq:(Nat.beq t t'&&us.all one&&Nat.beq us.length (m*s.size)&&Nat.ble (m*s.bytes) 16777216&&Nat.ble m 16777216)with
           |false=>rw[hq]at h;cases h
           | true=>
             rw[hq]at h;simp only[cond_true]at h
             simp only[Bool.and_eq_true]at hq
             obtain⟨⟨⟨⟨q1,q2⟩,q3⟩,q4⟩,q5⟩:=hq
             have q1:=Nat.eq_of_beq_eq_true q1
             have q3:=Nat.eq_of_beq_eq_true q3
             have q4:=Nat.le_of_ble_eq_true q4
             have q5:=Nat.le_of_ble_eq_true q5
             subst q1
             obtain⟨Af,cf,hsf⟩:=srcA_ok hsrc
             have hbu:=srcA_bel hsrc hM
             cases hm:Nat.beq m 0 with
             | true=>
               rw[hm]at h;simp only[cond_true]at h
               have hm0:=Nat.eq_of_beq_eq_true hm
               split at h
               · cases h
                 refine⟨by simp only[bel],fun σ=>?_⟩
                 simp only[val]
                 exact Rd.append0 ho (sliceI_ok hs σ) (evv (σ:=σ) hx) (by rw[ev_inst (σ:=σ) hy,(hsf σ).1]) hm0 (Nat.le_refl _)
               · split at h
                 · rename_i l c hsv
                   cases hl:Nat.ble l (capLo c)with
                   |false=>rw[hl]at h;cases h
                   | true=>
                     rw[hl]at h;cases h
                     have hl:=Nat.le_of_ble_eq_true hl
                     refine⟨bel_aev hk hb hx,fun σ=>?_⟩
                     have:=capLo_le (σ:=σ) (c:=c)
                     rw[slv_val hsv]
                     exact Rd.append0 ho (sliceI_ok hs σ) (evsl hx hsv) (by rw[ev_inst (σ:=σ) hy,(hsf σ).1]) hm0 (by omega)
                 ·cases h
             | false =>
               rw[hm]at h;simp only[cond_false]at h
               have hm0:0<m:=by
                rcases Nat.eq_zero_or_pos m with h|h
                ·rw[h]at hm;cases hm
                ·exact h
               cases hfr:fresh v with
               | true=>
                 rw[hfr]at h;cases h
                 obtain⟨Bf,hBf⟩:=fresh_ok hfr
                 refine⟨by omega,by simp only[bel];omega,fun c hc=>by rw[List.mem_singleton.1 hc];exact bel_row hbu,fun σ=>?_⟩
                 have:=Mk.appendRaw (Γ:=mem σ M) ho (sliceI_ok hs σ) (by rw[ev_inst (σ:=σ) hx,hBf]) (by rw[ev_inst (σ:=σ) hy,(hsf σ).1]) (hsf σ).2 (by rw[vals_len];exact q3) (all_oneV q2) hm0 q5 q4
                 exact Mk.mono this fun u N w hR hs=>outRow hk hbu hm0 (fun σ' he=>(vals_ext (fun i hi=>he i hi) _ hbu).symm) hR hs
               | false=>
                 rw[hfr]at h;simp only[cond_false]at h
                 split at h
                 · rename_i j i n c b hon
                   cases hn:(Nat.ble ((n+m)*s.bytes) 16777216&&Nat.ble n 16777216)with
                   |false=>rw[hn]at h;cases h
                   | true=>
                     rw[hn]at h;cases h
                     rw[Bool.and_eq_true]at hn
                     have n1:=Nat.le_of_ble_eq_true hn.1
                     have n2:=Nat.le_of_ble_eq_true hn.2
                     obtain⟨g1,g2,g3⟩:=ontoA_ok hon
                     have hbb:=hM b (find_mem g1)
                     have hcs:bels k (b.cs++us):=bels_app hbb.cs hbu
                     refine⟨by omega,by simp only[bel];omega,belM_set (belM_up (by omega) hM) (bel_row hcs),fun σ=>?_⟩
                     have hat:=mem_at (σ:=σ) g1
                     have e3:ck σ b=Sep.row s.e s.size (some ⟨bl σ i,0,none⟩) n (cp σ c) (vals σ b.cs):=by unfold ck;rw[g2,(find_get g1).2]
                     rw[e3]at hat
                     have hx':ev (inst σ ρ) x=some (.slice (some ⟨bl σ i,0,none⟩) n (cp σ c)):=by rw[ev_inst (σ:=σ) hx,g3]
                     have:=Ge.append (Γ:=mem σ M) ho (sliceI_ok hs σ) hx' (by rw[ev_inst (σ:=σ) hy,(hsf σ).1]) hat (fun w hw=>(hsf σ).2 w hw.each) (by rw[vals_len];exact q3) (all_oneV q2) (by simp only[maxLen];omega) (by omega)
                     refine Ge.mono this fun u N w hR hs=>outGrown hk hM (find_lt g1) hcs (by omega) ?_ hs
                     obtain⟨A',cap',r1,r2⟩:=hR
                     exact⟨A',cap',r1,by rw[r2,vals_map,vals_map,vals_map,List.map_append]⟩
                 ·cases h
         ·cases h
       ·cases h
     ·cases h
   ·cases h
 ·cases h
theorem letters_ok:∀{cs:List AV} {s:List Nat},ustrA.lettersA cs=some s→vals σ cs=(s.map UInt8.ofNat).map fun z=>Value.int .u8 z.toNat
 |[],s,h=>by simp only[ustrA.lettersA,Option.some.injEq]at h;subst h;rfl
 | c :: r,s,h=>by
   unfold ustrA.lettersA at h
   split at h
   ·rename_i he;cases he
   · rename_i b r' he
     cases he
     split at h
     · rename_i l hl
       cases hb:Nat.blt b 256 with
       |false=>rw[hb]at h;cases h
       | true=>
         rw[hb]at h;cases h
         have:=Nat.le_of_ble_eq_true hb
         simp only[vals,val,letters_ok hl,List.map_cons]
         congr 2
         simp
         omega
     ·cases h
   ·cases h
theorem erase_map{j:Nat}:(mem σ M).eraseIdx j=mem σ (M.eraseIdx j):=by
 unfold mem
 induction M generalizing j with
 |nil=>rfl
 | cons c M ih=>
   cases j with
   |zero=>rfl
   |succ j=>simp only[List.map_cons,List.eraseIdx_cons_succ,ih]
theorem ustrA_ok(hk:4096≤k)(hM:belM k M)(h:ustrA P k ρ M o.op=some r):ResOk P o ρ M k r:=by
 generalize ho:o.op=op at h
 unfold ustrA at h
 split at h
 · rename_i c
   obtain⟨cl,as,ts⟩:=c
   simp only at h
   split at h
   · rename_i x y pt it h1 h2
     have e1:=one2 h1
     have e2:=one2t h2
     subst e1 e2
     split at h
     · rename_i i n e hx hy hu
       split at h
       · rename_i j b hf
         split at h
         · rename_i e' size n' c hkd
           cases hq:(Nat.beq e' e&&Nat.beq size 1&&Nat.beq n' n&&Nat.beq (P.cellsOf e) 1&&Nat.blt 0 n&&Nat.ble n 16777216)with
           |false=>rw[hq]at h;cases h
           | true=>
             rw[hq]at h;simp only[cond_true]at h
             simp only[Bool.and_eq_true]at hq
             obtain⟨⟨⟨⟨⟨q1,q2⟩,q3⟩,q4⟩,q5⟩,q6⟩:=hq
             rw[Nat.eq_of_beq_eq_true q1,Nat.eq_of_beq_eq_true q2,Nat.eq_of_beq_eq_true q3]at hkd
             have q6:=Nat.le_of_ble_eq_true q6
             split at h
             · rename_i s hls
               cases h
               refine⟨Nat.le_refl _,by simp only[bel],fun c hc=>hM c (List.mem_of_mem_eraseIdx hc),fun σ=>?_⟩
               have hat:=mem_at (σ:=σ) hf
               have e3:ck σ b=Sep.row e 1 (some ⟨bl σ i,0,none⟩) n (cp σ c) ((s.map UInt8.ofNat).map fun z=>Value.int .u8 z.toNat):=by unfold ck;rw[hkd,(find_get hf).2];simp only[letters_ok (σ:=σ) hls]
               rw[e3]at hat
               refine Ge.mono (Ge.unsafeStr ho hu (Nat.eq_of_beq_eq_true q4) (evv (σ:=σ) hx) (evv (σ:=σ) hy) hat (Nat.le_of_ble_eq_true q5) (by omega)) ?_
               rintro _ _ w ⟨rfl,rfl⟩ _
               refine⟨σ,fun _ _=>rfl,by simp only[val,bytesOf],?_⟩
               exact erase_map
             ·cases h
         ·cases h
       ·cases h
     ·cases h
   ·cases h
 ·cases h
end
def cls:Op→Nat
 | .move _=>0
 | .assign _=>0
 | .pick _ _ _=>0
 | .extract _ _=>0
 | .nilCheck _=>0
 | .binOp _ _ _ _ _=>1
 | .unOp _ _ _=>1
 | .fieldAddr _ _ _=>2
 | .indexAddr _ _ _=>2
 | .index _ _ _=>2
 | .field _ _ _=>2
 | .build _ _=>2
 | .makeFunc _ _ _=>2
 | .slice _ _ _ _ _=>2
 | .load _ _=>3
 | .store _ _ _=>4
 | .mapUpdate _ _ _ _=>4
 | .alloc _=>5
 | .box _ _=>5
 | .buildSlice _ _ _=>5
 | .makeSlice _ _ _=>5
 | .makeMap _ _=>5
 | .convert _ _ _=>6
 | .call c=>match c.callee with
   | .builtin .append=>7
   | .builtin .unsafeString=>8
   | .builtin _=>9
   |_=>10
 |_=>99
def extB(P:Program)(f:Nat):Bool:=
 match P.funcs[f]? with
 |some fn=>fn.body.isNone
 |none=>false
structure Same(P:Program) where
 is:Nat→Bool
 ok:∀f,is f=true→∀x w,(callFunc f #[x]).run P w= .ok (.value x) w
def sameA{P:Program}(S:Same P)(ρ:ASlots):Op→Option AV
 | .call c=>match c.callee,c.args.toList with
   | .value (.func f),[x]=>bif S.is f then aev ρ x else none
   |_,_=>none
 |_=>none
def extA{P:Program}(S:Same P)(ρ:ASlots)(ty:TypeId):Op→Option AV
 | .call c=>match c.callee with
   | .value (.func f)=>bif extB P f then(match sameA S ρ (.call c)with
     |some v=>some v
     |none=>semA P ρ ty (.call c))else none
   |_=>none
 |_=>none
def asVal:Option AV→Option Res
 |some v=>some (.val v)
 |none=>none
def asUp:Option (List MC)→Option Res
 |some v=>some (.up v)
 |none=>none
def execA{P:Program}(S:Same P)(k:Nat)(ρ:ASlots)(M:List MC)(o:Oper):Option Res:=
 match cls o.op with
 |0=>asVal (moveA P ρ o.op)
 | 1=>match moveA P ρ o.op with
   |some v=>some (.val v)
   |none=>asVal (semA P ρ o.type o.op)
 |2=>asVal (valA P ρ o.op)
 |3=>asVal (readA P ρ M o.op)
 |4=>asUp (upA P ρ M o.op)
 |5=>mkA P k ρ o.op
 | 6=>match semA P ρ o.type o.op with
   |some v=>some (.val v)
   |none=>asVal (readA P ρ M o.op)
 |7=>appA P k ρ M o.op
 |8=>ustrA P k ρ M o.op
 | 9 =>match valA P ρ o.op with
   |some v=>some (.val v)
   | none=>match readA P ρ M o.op with
     |some v=>some (.val v)
     |none=>asVal (semA P ρ o.type o.op)
 |10=>asVal (extA S ρ o.type o.op)
 |_=>none
def entA(P:Program)(ρ:ASlots):Op→Option (Nat×List AV)
 | .call c=>match c.callee with
   | .value x=>match aev ρ x,aevs ρ c.args.toList with
     |some (.fn f fst cap),some vs=>bif callable P f then some (f,fst++vs++cap)else none
     |_,_=>none
   |_=>none
 |_=>none
section
variable{P:Program}{S:Same P}{o:Oper}{ρ:ASlots}{M:List MC}{k:Nat}{r:Res}{v:AV}
theorem sameA_rd{σ:Nat→Nat}{Γ:List Chunk}(h:sameA S ρ o.op=some v):Rd P o (inst σ ρ) Γ (val σ v):=by
 generalize ho:o.op=op at h
 unfold sameA at h
 split at h
 · rename_i c
   obtain⟨cl,as,ts⟩:=c
   simp only at h
   split at h
   · rename_i f x h2
     have e1:as=#[x]:=by rw[←Array.toList_inj];exact h2
     subst e1
     cases hs:S.is f with
     |false=>rw[hs]at h;cases h
     | true=>
       rw[hs]at h;simp only[cond_true]at h
       have hx:=ev_inst (σ:=σ) h
       exact fun a w ha _=>by
        unfold execOp
        have hf:a.eval (.func f)= .func (.func f) #[] #[]:=rfl
        simp[ho,resolve,hf,Deferred.ofValue,invoke,ha.eval hx,S.ok f hs]
   ·cases h
 ·cases h
theorem sameA_bel{op:Op}(hk:4096≤k)(hb:belS k ρ)(h:sameA S ρ op=some v):bel k v:=by
 unfold sameA at h
 split at h
 · split at h
   · cases hs:S.is _ with
     |false=>rw[hs]at h;cases h
     |true=>rw[hs]at h;exact bel_aev hk hb h
   ·cases h
 ·cases h
theorem extA_ok(hk:4096≤k)(hb:belS k ρ)(h:extA S ρ o.type o.op=some v):ResOk P o ρ M k (.val v):=by
 generalize ho:o.op=op at h
 unfold extA at h
 split at h
 · split at h
   · cases he:extB P _ with
     |false=>rw[he]at h;cases h
     | true=>
       rw[he]at h;simp only[cond_true]at h
       split at h
       · rename_i v' hv
         cases h
         exact⟨sameA_bel hk hb hv,fun σ=>sameA_rd (by rw[ho];exact hv)⟩
       ·exact⟨bel_semA h,fun σ=>semA_rd (by rw[ho];exact h)⟩
   ·cases h
 ·cases h
theorem asVal_some{x:Option AV}(h:asVal x=some r):∃v,x=some v∧r= .val v:=by
 cases x with
 |none=>cases h
 |some v=>cases h;exact⟨v,rfl,rfl⟩
theorem asUp_some{x:Option (List MC)}(h:asUp x=some r):∃v,x=some v∧r= .up v:=by
 cases x with
 |none=>cases h
 |some v=>cases h;exact⟨v,rfl,rfl⟩
theorem execA_ok(hk:4096≤k)(hb:belS k ρ)(hM:belM k M)(h:execA S k ρ M o=some r):ResOk P o ρ M k r:=by
 have mv:∀{v},moveA P ρ o.op=some v→ResOk P o ρ M k (.val v):=fun h=>⟨bel_moveA hk hb h,fun σ=>moveA_rd h⟩
 have vl:∀{v},valA P ρ o.op=some v→ResOk P o ρ M k (.val v):=fun h=>⟨bel_valA hk hb h,fun σ=>valA_rd h⟩
 have sm:∀{v},semA P ρ o.type o.op=some v→ResOk P o ρ M k (.val v):=fun h=>⟨bel_semA h,fun σ=>semA_rd h⟩
 unfold execA at h
 split at h
 ·obtain⟨v,h1,rfl⟩:=asVal_some h;exact mv h1
 · split at h
   ·rename_i v h1;cases h;exact mv h1
   ·obtain⟨v,h1,rfl⟩:=asVal_some h;exact sm h1
 ·obtain⟨v,h1,rfl⟩:=asVal_some h;exact vl h1
 ·obtain⟨v,h1,rfl⟩:=asVal_some h;exact readA_ok hk hb hM h1
 ·obtain⟨v,h1,rfl⟩:=asUp_some h;exact upA_ok hk hb hM h1
 ·exact mkA_ok hk hb h
 · split at h
   ·rename_i v h1;cases h;exact sm h1
   ·obtain⟨v,h1,rfl⟩:=asVal_some h;exact readA_ok hk hb hM h1
 ·exact appA_ok hk hb hM h
 ·exact ustrA_ok hk hM h
 · split at h
   ·rename_i v h1;cases h;exact vl h1
   · split at h
     ·rename_i v h1;cases h;exact readA_ok hk hb hM h1
     ·obtain⟨v,h1,rfl⟩:=asVal_some h;exact sm h1
 ·obtain⟨v,h1,rfl⟩:=asVal_some h;exact extA_ok hk hb h1
 ·cases h
theorem entA_ok{f:Nat}{vs:List AV}(h:entA P ρ o.op=some (f,vs))(σ:Nat→Nat):Ent P o (inst σ ρ) f (vals σ vs):=by
 generalize ho:o.op=op at h
 unfold entA at h
 split at h
 · rename_i c
   obtain⟨cl,as,ts⟩:=c
   simp only at h
   split at h
   · rename_i x
     split at h
     · rename_i f' fst cap us hx hu
       cases hc:callable P f' with
       |false=>rw[hc]at h;cases h
       | true=>
         rw[hc]at h;cases h
         have:=Ent.func (P:=P) (ρ:=inst σ ρ) (xs:=as.toList) (ts:=ts) (by rw[ho]) (evv (σ:=σ) hx) (evs_inst hu) hc
         rw[vals_map,List.map_append,List.map_append,←vals_map,←vals_map,←vals_map]
         exact this
     ·cases h
   ·cases h
 ·cases h
theorem entA_bel{op:Op}{f:Nat}{vs:List AV}(hk:4096≤k)(hb:belS k ρ)(h:entA P ρ op=some (f,vs)):bels k vs:=by
 unfold entA at h
 split at h
 · split at h
   · split at h
     · rename_i f' fst cap us hx hu
       cases hc:callable P f' with
       |false=>rw[hc]at h;cases h
       | true=>
         rw[hc]at h;cases h
         have h1:=bel_aev hk hb hx
         simp only[bel]at h1
         exact bels_app (bels_app h1.1 (bel_aevs hk hb hu)) h1.2
     ·cases h
   ·cases h
 ·cases h
end
def grdA(ops:Array Oper)(ρ:ASlots)(o:Oper):Option Bool:=
 match o.guard with
 |none=>some true
 | some (j,s)=>match ops[j]? with
   | some p=>match p.dst with
     | some d=>match alook ρ d with
       |some (.bool b)=>some (b==s)
       |some .und=>some false
       |_=>none
     |none=>none
   |none=>none
structure St where
 ρ:ASlots
 M:List MC
 k:Nat
structure St.Good(s:St):Prop where
 big:4096≤s.k
 sl:belS s.k s.ρ
 me:belM s.k s.M
abbrev CallF:=Nat→List AV→List MC→Nat→Option (AV×List MC×Nat)
structure Known(P:Program)(f:FuncId)(vs:List AV)(M:List MC)(k:Nat)(v:AV)(M':List MC)(k':Nat):Prop where
 le:k≤k'
 bval:bel k' v
 bmem:belM k' M'
 does:∀σ,Does P f (vals σ vs) (mem σ M) (Outs k σ v M')
def CallsOk(P:Program)(F:CallF):Prop:=∀f vs M k v M' k',F f vs M k=some (v,M',k')→4096≤k→bels k vs→belM k M→Known P f vs M k v M' k'
def putA(n:Nat)(d:Option Nat)(s:St):Res→Option St
 | .val v=>match d with
   |some d=>bif Nat.blt d n then some ⟨(d,v)::s.ρ,s.M,s.k⟩else none
   |none=>none
 | .up M'=>match d with
   |some _=>none
   |none=>some ⟨s.ρ,M',s.k⟩
 | .mk v N k'=>match d with
   |some d=>bif Nat.blt d n then some ⟨(d,v)::s.ρ,N++s.M,k'⟩else none
   |none=>none
 | .ge v M' k'=>match d with
   |some d=>bif Nat.blt d n then some ⟨(d,v)::s.ρ,M',k'⟩else none
   |none=>none
def stepA{P:Program}(S:Same P)(F:CallF)(n:Nat)(ops:Array Oper)(o:Oper)(s:St):Option St:=
 match grdA ops s.ρ o with
 |none=>none
 | some false=>match o.dst with
   |some d=>bif Nat.blt d n then some ⟨(d, .und)::s.ρ,s.M,s.k⟩else none
   |none=>none
 | some true=>match execA S s.k s.ρ s.M o with
   |some r=>putA n o.dst s r
   | none=>match entA P s.ρ o.op,o.dst with
     | some (f,vs),some d=>match F f vs s.M s.k with
       |some (v,M',k')=>bif Nat.blt d n then some ⟨(d,v)::s.ρ,M',k'⟩else none
       |none=>none
     |_,_=>none
def runL{P:Program}(S:Same P)(F:CallF)(n:Nat)(ops:Array Oper):List Oper→St→Option St
 |[],s=>some s
 | o::r,s=>match stepA S F n ops o s with
   |some s'=>runL S F n ops r s'
   |none=>none
def Goes(C:Cx)(s s':St)(K' K:Act→World→Prop):Prop:=
 ∀σ,(∀σ',Sup s.k σ σ'→To C (inst σ' s'.ρ) (mem σ' s'.M) K')→To C (inst σ s.ρ) (mem σ s.M) K
theorem Goes.trans{C:Cx}{s s' s'':St}{K K' K'':Act→World→Prop}(hk:s.k≤s'.k)(h:Goes C s s' K' K)(h':Goes C s' s'' K'' K'):Goes C s s'' K'' K:=
 fun σ k=>h σ fun σ' he=>h' σ' fun σ'' he'=>k σ'' (Sup.trans hk he he')
theorem Goes.refl{C:Cx}{s:St}{K:Act→World→Prop}:Goes C s s K K:=fun σ k=>k σ fun _ _=>rfl
theorem pull_all:∀Γ:List Chunk,pull Γ (List.replicate Γ.length 0)=some (Γ,[])
 |[]=>rfl
 | c::Γ=>by
   have h:=pull_all Γ
   simp only[lc1,List.replicate_succ]
   unfold pull
   simp[h]
section
variable{P:Program}{S:Same P}{F:CallF}{o:Oper}{s s':St}{σ:Nat→Nat}{v:AV}{ops:Array Oper}{C:Cx}{Q:Exit→Act→World→Prop}{rest:List Oper}{d:Nat}
theorem grdA_grd{ρ:ASlots}{b:Bool}(h:grdA ops ρ o=some b):grd ops (inst σ ρ) o=some b:=by
 unfold grdA at h
 unfold grd
 cases hg:o.guard with
 |none=>rw[hg]at h;exact h
 | some p=>
   obtain⟨j,q⟩:=p
   rw[hg]at h
   simp only at h⊢
   split at h
   · rename_i p hp
     split at h
     · rename_i d hd
       split at h
       · rename_i c hl
         simp only[hp,Option.bind_some,hd,look_inst σ hl,val]
         exact h
       · rename_i hl
         simp only[hp,Option.bind_some,hd,look_inst σ hl,val]
         exact h
       ·cases h
     ·cases h
   ·cases h
theorem belS_cons{k:Nat}{ρ:ASlots}(hv:bel k v)(h:belS k ρ):belS k ((d,v)::ρ):=fun p hp=>by
 rcases List.mem_cons.1 hp with rfl|hp
 ·exact hv
 ·exact h p hp
theorem belS_up{k k':Nat}(hk:k≤k'){ρ:ASlots}(h:belS k ρ):belS k' ρ:=fun p hp=>bel_up hk _ (h p hp)
theorem mem_append{M N:List MC}:mem σ (M++N)=mem σ M++mem σ N:=by unfold mem;rw[List.map_append]
theorem inst_cons{ρ:ASlots}:inst σ ((d,v)::ρ)=(d,val σ v)::inst σ ρ:=rfl
theorem stepA_to(hF:CallsOk P F)(hs:s.Good)(h:stepA S F C.n ops o s=some s'):s'.Good∧s.k≤s'.k∧Goes C s s' (wpList P ops Q rest) (wpList P ops Q (o::rest)):=by
 obtain⟨hbig,hsl,hme⟩:=hs
 unfold stepA at h
 split at h
 ·cases h
 · rename_i hg
   split at h
   · rename_i d hd
     cases hn:Nat.blt d C.n with
     |false=>rw[hn]at h;cases h
     | true=>
       rw[hn]at h;cases h
       exact⟨⟨hbig,belS_cons (by simp only[bel]) hsl,hme⟩,Nat.le_refl _,fun σ k=>To.sk (grdA_grd hg) hd hn (k σ fun _ _=>rfl)⟩
   ·cases h
 · rename_i hg
   split at h
   · rename_i r hr
     have hok:=execA_ok hbig hsl hme hr
     unfold putA at h
     split at h
     · split at h
       · rename_i d hd
         cases hn:Nat.blt d C.n with
         |false=>rw[hn]at h;cases h
         | true=>
           rw[hn]at h;cases h
           exact⟨⟨hbig,belS_cons hok.1 hsl,hme⟩,Nat.le_refl _,fun σ k=>To.rd (grdA_grd hg) hd hn (hok.2 σ) (k σ fun _ _=>rfl)⟩
       ·cases h
     · split at h
       ·cases h
       · rename_i hd
         cases h
         exact⟨⟨hbig,hsl,hok.1⟩,Nat.le_refl _,fun σ k=>To.up (grdA_grd hg) hd (hok.2 σ) (k σ fun _ _=>rfl)⟩
     · rename_i v N k'
       obtain⟨h1,h2,h3,h4⟩:=hok
       split at h
       · rename_i d hd
         cases hn:Nat.blt d C.n with
         |false=>rw[hn]at h;cases h
         | true=>
           rw[hn]at h;cases h
           refine⟨⟨Nat.le_trans hbig h1,belS_cons h2 (belS_up h1 hsl),belM_append h3 (belM_up h1 hme)⟩,h1,fun σ k=>To.mk (grdA_grd hg) hd hn (h4 σ) ?_⟩
           rintro _ _ ⟨σ',he,rfl,rfl⟩
           have:=k σ' he
           rw[mem_append,←mem_ext he hme,inst_cons,←inst_ext he hsl]at this
           exact this
       ·cases h
     · rename_i v M' k'
       obtain⟨h1,h2,h3,h4⟩:=hok
       split at h
       · rename_i d hd
         cases hn:Nat.blt d C.n with
         |false=>rw[hn]at h;cases h
         | true=>
           rw[hn]at h;cases h
           refine⟨⟨Nat.le_trans hbig h1,belS_cons h2 (belS_up h1 hsl),h3⟩,h1,fun σ k=>To.ge (grdA_grd hg) hd hn (h4 σ) ?_⟩
           rintro _ _ ⟨σ',he,rfl,rfl⟩
           have:=k σ' he
           rw[inst_cons,←inst_ext he hsl]at this
           exact this
       ·cases h
   · split at h
     · rename_i f vs d he hd
       split at h
       · rename_i v M' k' hf
         cases hn:Nat.blt d C.n with
         |false=>rw[hn]at h;cases h
         | true=>
           rw[hn]at h;cases h
           have hk:=hF _ _ _ _ _ _ _ hf hbig (entA_bel hbig hsl he) hme
           refine⟨⟨Nat.le_trans hbig hk.le,belS_cons hk.bval (belS_up hk.le hsl),hk.bmem⟩,hk.le,fun σ k=>?_⟩
           refine To.cl _ (grdA_grd hg) hd hn (entA_ok he σ) (pull_all _) (hk.does σ) ?_
           rintro _ _ ⟨σ',he',rfl,rfl⟩
           have:=k σ' he'
           rw[inst_cons,←inst_ext he' hsl]at this
           rw[List.append_nil]
           exact this
       ·cases h
     ·cases h
theorem runL_to(hF:CallsOk P F):∀(l:List Oper) (s s':St),runL S F C.n ops l s=some s'→s.Good→s'.Good∧s.k≤s'.k∧Goes C s s' (Q .normal) (wpList P ops Q l)
 | [],s,s',h,hs=>by
   simp only[runL,Option.some.injEq]at h;subst h
   exact⟨hs,Nat.le_refl _,fun σ k=>To.n (k σ fun _ _=>rfl)⟩
 | o ::r,s,s',h,hs=>by
   unfold runL at h
   split at h
   · rename_i s1 h1
     obtain⟨g1,g2,g3⟩:=stepA_to (Q:=Q) (rest:=r) hF hs h1
     obtain⟨a,b,c⟩:=runL_to hF r s1 s' h g1
     exact⟨a,Nat.le_trans g2 b,Goes.trans g2 g3 c⟩
   ·cases h
end
mutual
def eqV:AV→AV→Bool
 | .bool a, .bool b=>a==b
 | .int k m, .int k' n=>kindB k k'&&decide (m=n)
 | .str a, .str b=>eqL a b
 | .ptr i q, .ptr j r=>Nat.beq i j&&Nat.beq q r
 | .nilp, .nilp=>true
 | .sl a b c d, .sl e f g h=>Nat.beq a e&&Nat.beq b f&&Nat.beq c g&&Nat.beq d h
 | .slu a b c d x, .slu e f g h y=>Nat.beq a e&&Nat.beq b f&&Nat.beq c g&&Nat.beq d h&&Nat.beq x y
 | .nils, .nils=>true
 | .mp i, .mp j=>Nat.beq i j
 | .nilm, .nilm=>true
 | .nilf, .nilf=>true
 | .nili, .nili=>true
 | .und, .und=>true
 | .fn f a b, .fn g c d=>Nat.beq f g&&eqVs a c&&eqVs b d
 | .ifc t v, .ifc u w=>Nat.beq t u&&eqV v w
 | .agg a, .agg b=>eqVs a b
 | .tup a, .tup b=>eqVs a b
 |_,_=>false
def eqVs:List AV→List AV→Bool
 |[],[]=>true
 |a::x,b::y=>eqV a b&&eqVs x y
 |_,_=>false
def eqL:List Nat→List Nat→Bool
 |[],[]=>true
 |a::x,b::y=>Nat.beq a b&&eqL x y
 |_,_=>false
end
theorem eqL_ok:∀{a b:List Nat},eqL a b=true→a=b
 |[],[],_=>rfl
 |[],_::_,h=>by simp[eqL]at h
 |_::_,[],h=>by simp[eqL]at h
 |a::x,b::y,h=>by simp only[eqL,Bool.and_eq_true]at h;rw[Nat.eq_of_beq_eq_true h.1,eqL_ok h.2]
mutual
theorem eqV_ok:∀(a b:AV),eqV a b=true→a=b
 | .bool _,b,h=>by cases b<;>simp[eqV]at h;rw[h]
 | .int _ _,b,h=>by
   cases b<;>simp[eqV,kindB]at h
   rw[h.1,h.2]
 | .str _,b,h=>by cases b<;>simp[eqV]at h;rw[eqL_ok h]
 | .ptr _ _,b,h=>by
   cases b<;>simp[eqV]at h
   rw[h.1,h.2]
 | .nilp,b,h=>by cases b<;>simp[eqV]at h;rfl
 | .sl _ _ _ _,b,h=>by
   cases b<;>simp[eqV]at h
   rw[h.1.1.1,h.1.1.2,h.1.2,h.2]
 | .slu _ _ _ _ _,b,h=>by
   cases b<;>simp[eqV]at h
   rw[h.1.1.1.1,h.1.1.1.2,h.1.1.2,h.1.2,h.2]
 | .nils,b,h=>by cases b<;>simp[eqV]at h;rfl
 | .mp _,b,h=>by cases b<;>simp[eqV]at h;rw[h]
 | .nilm,b,h=>by cases b<;>simp[eqV]at h;rfl
 | .nilf,b,h=>by cases b<;>simp[eqV]at h;rfl
 | .nili,b,h=>by cases b<;>simp[eqV]at h;rfl
 | .und,b,h=>by cases b<;>simp[eqV]at h;rfl
 | .fn _ x y,b,h=>by
   cases b<;>simp[eqV]at h
   rw[h.1.1,eqVs_ok x _ h.1.2,eqVs_ok y _ h.2]
 | .ifc _ v,b,h=>by
   cases b<;>simp[eqV]at h
   rw[h.1,eqV_ok v _ h.2]
 | .agg x,b,h=>by
   cases b<;>simp[eqV]at h
   rw[eqVs_ok x _ h]
 | .tup x,b,h=>by
   cases b<;>simp[eqV]at h
   rw[eqVs_ok x _ h]
theorem eqVs_ok:∀(a b:List AV),eqVs a b=true→a=b
 |[],b,h=>by cases b<;>simp[eqVs]at h;rfl
 | v ::x,b,h=>by
   cases b with
   |nil=>simp[eqVs]at h
   | cons w y=>
     simp only[eqVs,Bool.and_eq_true]at h
     rw[eqV_ok v w h.1,eqVs_ok x y h.2]
end
def eqK:MK→MK→Bool
 | .box t, .box u=>Nat.beq t u
 | .row a b c d, .row e f g h=>Nat.beq a e&&Nat.beq b f&&Nat.beq c g&&acEq d h
 | .ro, .ro=>true
 |_,_=>false
theorem eqK_ok{a b:MK}(h:eqK a b=true):a=b:=by
 cases a<;>cases b<;>first|(cases h;done)|(simp[eqK]at h)
 ·rw[h]
 ·rw[h.1.1.1,h.1.1.2,h.1.2,acEq_ok h.2]
 ·rfl
def thB:List MC→List MC→Bool
 |[],_=>true
 | c::r,M=>(match find M c.i with
   |some (_,b)=>eqK c.kd b.kd&&eqVs c.cs b.cs
   |none=>false)&&thB r M
def News:=List (Nat×List MC)
def flatN(N:List (Nat×List MC)):List MC:=N.flatMap (·.2)
def availN(N:List (Nat×List MC))(deps:List Nat):List MC:=N.flatMap fun n=>bif deps.any (Nat.beq n.1)then n.2 else []
def newsV(σ:Nat→Nat)(N:List (Nat×List MC)):Sep.News:=N.map fun n=>(n.1,mem σ n.2)
def roM:List MC→List MC
 |[]=>[]
 | c::r=>match cellsM c with
   |some cs=>⟨c.i, .ro,cs⟩::roM r
   |none=>roM r
def isRo(c:MC):Bool:=
 match c.kd with
 | .ro=>true
 |_=>false
def newM(k:Nat)(M:List MC):List MC:=M.filter fun c=>Nat.ble k c.i&& !isRo c
mutual
def belB(k:Nat):AV→Bool
 | .ptr i _=>Nat.blt i k
 | .sl i _ _ _=>Nat.blt i k
 | .slu i _ _ c _=>Nat.blt i k&&Nat.blt c k
 | .mp i=>Nat.blt i k
 | .fn _ a b=>belsB k a&&belsB k b
 | .ifc _ v=>belB k v
 | .agg l=>belsB k l
 | .tup l=>belsB k l
 |_=>true
def belsB(k:Nat):List AV→Bool
 |[]=>true
 |v::l=>belB k v&&belsB k l
end
mutual
theorem belB_ok{k:Nat}:∀(v:AV),belB k v=true→bel k v
 | .ptr _ _,h=>by simp only[belB]at h;simp only[bel];exact Nat.le_of_ble_eq_true h
 | .sl _ _ _ _,h=>by simp only[belB]at h;simp only[bel];exact Nat.le_of_ble_eq_true h
 | .slu _ _ _ _ _,h=>by simp only[belB,Bool.and_eq_true]at h;simp only[bel];exact⟨Nat.le_of_ble_eq_true h.1,Nat.le_of_ble_eq_true h.2⟩
 | .mp _,h=>by simp only[belB]at h;simp only[bel];exact Nat.le_of_ble_eq_true h
 | .fn _ a b,h=>by simp only[belB,Bool.and_eq_true]at h;simp only[bel];exact⟨belsB_ok a h.1,belsB_ok b h.2⟩
 | .ifc _ v,h=>by simp only[belB]at h;simp only[bel];exact belB_ok v h
 | .agg l,h=>by simp only[belB]at h;simp only[bel];exact belsB_ok l h
 | .tup l,h=>by simp only[belB]at h;simp only[bel];exact belsB_ok l h
 | .bool _,_=>by simp only[bel]
 | .int _ _,_=>by simp only[bel]
 | .str _,_=>by simp only[bel]
 | .nilp,_=>by simp only[bel]
 | .nils,_=>by simp only[bel]
 | .nilm,_=>by simp only[bel]
 | .nilf,_=>by simp only[bel]
 | .nili,_=>by simp only[bel]
 | .und,_=>by simp only[bel]
theorem belsB_ok{k:Nat}:∀(l:List AV),belsB k l=true→bels k l
 |[],_=>by simp only[bels]
 |v::l,h=>by simp only[belsB,Bool.and_eq_true]at h;simp only[bels];exact⟨belB_ok v h.1,belsB_ok l h.2⟩
end
structure FS where
 ρ:ASlots
 M:List MC
 N:List (Nat×List MC)
 k:Nat
def notIn(i:Nat):List (Nat×List MC)→Bool
 |[]=>true
 |n::r=> !Nat.beq n.1 i&&notIn i r
def flow1 {P:Program}(S:Same P)(F:CallF)(n:Nat)(l:List Oper)(Th:List MC)(m:Meta)(s:FS):Option FS:=
 match l[m.i]? with
 |none=>none
 | some o=>match grdA l.toArray s.ρ o with
   |none=>none
   | some false=>match o.dst with
     | some d=>bif Nat.blt d n then(match m.kind with
       |0=>some ⟨(d, .und)::s.ρ,s.M,s.N,s.k⟩
       |1=>some ⟨(d, .und)::s.ρ,s.M,s.N,s.k⟩
       |2=>bif notIn m.i s.N then some ⟨(d, .und)::s.ρ,s.M,(m.i,[])::s.N,s.k⟩else none
       |3=>some ⟨(d, .und)::s.ρ,s.M,s.N,s.k⟩
       |_=>none)else none
     |none=>none
   | some true=>match m.kind with
     | 0=>match o.dst,execA S s.k s.ρ Th o with
       |some d,some (.val v)=>bif Nat.blt d n then some ⟨(d,v)::s.ρ,s.M,s.N,s.k⟩else none
       |_,_=>none
     | 1=>match o.dst,execA S s.k s.ρ (availN s.N m.deps++s.M) o with
       |some d,some (.val v)=>bif Nat.blt d n then some ⟨(d,v)::s.ρ,s.M,s.N,s.k⟩else none
       |_,_=>none
     | 2=>match o.dst,execA S s.k s.ρ (availN s.N m.deps++s.M) o with
       |some d,some (.mk v N k')=>bif Nat.blt d n&&notIn m.i s.N then some ⟨(d,v)::s.ρ,s.M,(m.i,N)::s.N,k'⟩else none
       |_,_=>none
     | 3 =>match o.dst,entA P s.ρ o.op with
       | some d,some (f,vs)=>match F f vs (roM (availN s.N m.deps++s.M)) s.k with
         |some (v,_,_)=>bif Nat.blt d n&&belB s.k v then some ⟨(d,v)::s.ρ,s.M,s.N,s.k⟩else none
         |none=>none
       |_,_=>none
     | 4 =>match o.dst,entA P s.ρ o.op with
       | some d,some (f,vs)=>match F f vs (roM (availN s.N m.deps++s.M)) s.k with
         |some (v,M',k')=>bif Nat.blt d n&&notIn m.i s.N&&o.guard.isNone then some ⟨(d,v)::s.ρ,s.M,(m.i,newM s.k M')::s.N,k'⟩else none
         |none=>none
       |_,_=>none
     | 5 =>bif o.guard.isNone then(match execA S s.k s.ρ (flatN s.N++s.M) o with
       | some r=>match putA n o.dst ⟨s.ρ,flatN s.N++s.M,s.k⟩ r with
         |some s'=>bif thB Th s'.M then some ⟨s'.ρ,s'.M,[],s'.k⟩else none
         |none=>none
       | none=>match entA P s.ρ o.op,o.dst with
         | some (f,vs),some d=>match F f vs (flatN s.N++s.M) s.k with
           |some (v,M',k')=>bif Nat.blt d n&&thB Th M' then some ⟨(d,v)::s.ρ,M',[],k'⟩else none
           |none=>none
         |_,_=>none)else none
     |_=>none
def flowA{P:Program}(S:Same P)(F:CallF)(n:Nat)(l:List Oper)(Th:List MC):List Meta→FS→Option FS
 |[],s=>some s
 | m::r,s=>match flow1 S F n l Th m s with
   |some s'=>flowA S F n l Th r s'
   |none=>none
structure FS.Good(s:FS):Prop where
 big:4096≤s.k
 sl:belS s.k s.ρ
 me:belM s.k s.M
 nw:belM s.k (flatN s.N)
section
variable{P:Program}{S:Same P}{F:CallF}{C:Cx}{σ σ':Nat→Nat}{l:List Oper}{Th M M':List MC}{N:List (Nat×List MC)}{m:Meta}{ms:List Meta}{s s':FS}{k k':Nat}{Q:Act→World→Prop}{v:AV}
theorem flat_newsV:flat (newsV σ N)=mem σ (flatN N):=by
 induction N with
 |nil=>rfl
 | cons n N ih=>
   show mem σ n.2++flat (newsV σ N)=mem σ (n.2++flatN N)
   rw[ih,mem_append]
theorem avail_newsV{deps:List Nat}:avail (newsV σ N) deps=mem σ (availN N deps):=by
 induction N with
 |nil=>rfl
 | cons n N ih=>
   show(bif deps.any (Nat.beq n.1)then mem σ n.2 else [])++avail (newsV σ N) deps=mem σ ((bif deps.any (Nat.beq n.1)then n.2 else [])++availN N deps)
   rw[ih,mem_append]
   cases deps.any (Nat.beq n.1)<;>rfl
theorem belM_avail{deps:List Nat}(h:belM k (flatN N)):belM k (availN N deps):=fun c hc=>by
 unfold availN at hc
 obtain⟨n,hn,hc⟩:=List.mem_flatMap.1 hc
 cases hd:deps.any (Nat.beq n.1)with
 |false=>rw[hd]at hc;cases hc
 |true=>rw[hd]at hc;exact h c (List.mem_flatMap.2 ⟨n,hn,hc⟩)
theorem newsV_ext(he:Sup k σ σ')(h:belM k (flatN N)):newsV σ N=newsV σ' N:=by
 unfold newsV
 refine List.map_congr_left fun n hn=>?_
 rw[mem_ext he fun c hc=>h c (List.mem_flatMap.2 ⟨n,hn,hc⟩)]
theorem notIn_ok{i:Nat}(h:notIn i N=true):(newsV σ N).all (fun m=> !Nat.beq m.1 i)=true:=by
 induction N with
 |nil=>rfl
 | cons n N ih=>
   simp only[notIn,Bool.and_eq_true]at h
   show(!Nat.beq n.1 i&&(newsV σ N).all _)=true
   rw[ih h.2,h.1];rfl
theorem thB_mem:∀{Th M:List MC},thB Th M=true→∀c∈Th,c∈M
 |[],_,_,c,hc=>by cases hc
 | d :: r,M,h,c,hc=>by
   simp only[thB,Bool.and_eq_true]at h
   rcases List.mem_cons.1 hc with rfl|hc
   · have h1:=h.1
     split at h1
     · rename_i j b hf
       rw[Bool.and_eq_true]at h1
       have e1:=eqK_ok h1.1
       have e2:=eqVs_ok _ _ h1.2
       have e3:=(find_get hf).2
       have:c=b:=by
        obtain⟨i,kd,cs⟩:=c
        obtain⟨i',kd',cs'⟩:=b
        simp only at e1 e2 e3
        subst e1 e2 e3;rfl
       rw[this];exact find_mem hf
     ·cases h1
   ·exact thB_mem h.2 c hc
theorem thB_oks(h:thB Th M=true):∀w,oks (mem σ M) w→oks (mem σ Th) w:=fun w hw c hc=>by
 obtain⟨d,hd,rfl⟩:=List.mem_map.1 hc
 exact hw _ (List.mem_map_of_mem (thB_mem h d hd))
theorem roM_owns:owns (mem σ (roM M))=[]:=by
 induction M with
 |nil=>rfl
 | cons c M ih=>
   unfold roM
   split
   · rename_i cs _
     show owns (ck σ ⟨c.i, .ro,cs⟩::mem σ (roM M))=[]
     show(ck σ ⟨c.i, .ro,cs⟩).owns++owns (mem σ (roM M))=[]
     rw[ih];rfl
   ·exact ih
theorem ro_holds{c:MC}{cs:List AV}(h:cellsM c=some cs){w:World}(hw:(ck σ c).holds w):(ck σ ⟨c.i, .ro,cs⟩).holds w:=by
 obtain⟨i,kd,cs'⟩:=c
 unfold cellsM at h
 unfold ck at hw⊢
 cases kd with
 |box t=>cases h;exact .inr ⟨_,0,rfl,range_of_whole hw⟩
 | row e size n c=>
   cases h
   obtain⟨A',cap',h1,h2,_⟩:=own_form hw
   simp only[Value.slice.injEq]at h1
   show Src w (some ⟨bl σ i,0,none⟩) _
   rw[h1.1];exact h2
 |ro=>cases h;exact hw
 |maps m=>cases h
theorem roM_oks{w:World}(h:oks (mem σ M) w):oks (mem σ (roM M)) w:=by
 induction M with
 |nil=>exact h
 | cons c M ih=>
   have h1:(ck σ c).holds w:=h _ (List.mem_cons_self ..)
   have h2:=ih fun d hd=>h d (List.mem_cons_of_mem _ hd)
   unfold roM
   split
   · rename_i cs hc
     intro d hd
     rcases List.mem_cons.1 (show d∈ck σ ⟨c.i, .ro,cs⟩::mem σ (roM M)from hd)with rfl|hd
     ·exact ro_holds hc h1
     ·exact h2 d hd
   ·exact h2
theorem roM_bel(h:belM k M):belM k (roM M):=by
 induction M with
 |nil=>exact h
 | cons c M ih=>
   have h1:=h c (List.mem_cons_self ..)
   have h2:=ih fun d hd=>h d (List.mem_cons_of_mem _ hd)
   unfold roM
   split
   · rename_i cs hc
     exact belM_cons ⟨h1.pl,trivial,cellsM_bel hc h1⟩ h2
   ·exact h2
theorem newM_reads:reads (mem σ (newM k M))=[]:=by
 unfold newM
 induction M with
 |nil=>rfl
 | cons c M ih=>
   rw[List.filter_cons]
   split
   · rename_i hc
     show(ck σ c).reads++reads (mem σ (List.filter _ M))=[]
     rw[ih]
     simp only[Bool.and_eq_true,Bool.not_eq_true']at hc
     obtain⟨i,kd,cs⟩:=c
     unfold ck
     cases kd<;>first|rfl|(simp[isRo]at hc)
   ·exact ih
theorem mem_perm{M M':List MC}(h:M.Perm M'):(mem σ M).Perm (mem σ M'):=h.map _
theorem Does.keep{f:FuncId}{vs:List Value}{Γ:List Chunk}{v:AV}{p:MC→Bool}(h:Does P f vs Γ (Outs k σ v M)):Does P f vs Γ (Outs k σ v (M.filter p)):=fun w hs=>
 (h w hs).mono fun e w' ⟨u,Γ',h1,⟨σ',h2,h3,h4⟩,h5⟩=>by
  refine⟨u,mem σ' (M.filter p),h1,⟨σ',h2,h3,rfl⟩,?_⟩
  subst h4
  have hp:(mem σ' M).Perm (mem σ' (M.filter p)++mem σ' (M.filter fun c=> !p c)):=by
   rw[←mem_append];exact mem_perm (List.filter_append_perm p M).symm
  exact(h5.perm hp).drop
theorem belM_filter{p:MC→Bool}(h:belM k M):belM k (M.filter p):=fun c hc=>h c (List.mem_filter.1 hc).1
theorem Ge.ofRd{o:Oper}{ρ:Slots}{Γ:List Chunk}{u:Value}(h:Rd P o ρ Γ u):Ge P o ρ Γ (fun v Γ'=>v=u∧Γ'=Γ):=fun a w ha hs=>⟨_,_,w,h a w ha hs.each,⟨rfl,rfl⟩,Post.refl hs⟩
theorem Ge.ofMk{o:Oper}{ρ:Slots}{Γ:List Chunk}{R:Value→List Chunk→Prop}(h:Mk P o ρ Γ R):Ge P o ρ Γ (fun v Γ'=>∃N,R v N∧Γ'=N++Γ):=fun a w ha hs=>by
 obtain⟨v,N,w',h1,h2,h3⟩:=h a w ha hs.each
 exact⟨v,_,w',h1,⟨N,h2,rfl⟩,h3.add hs⟩
theorem flow1_to (hF :CallsOk P F)(hs:s.Good)(hT:belM s.k Th)(h:flow1 S F C.n l Th m s=some s'):s'.Good∧s.k≤s'.k∧∀σ,
    (∀σ',Sup s.k σ σ'→FlowS P noT l (mem σ' Th) Q ms C (inst σ' s'.ρ) (mem σ' s'.M) (newsV σ' s'.N))→FlowS P noT l (mem σ Th) Q (m::ms) C (inst σ s.ρ) (mem σ s.M) (newsV σ s.N):=by
 obtain⟨hbig,hsl,hme,hnw⟩:=hs
 obtain⟨i,deps,kd⟩:=m
 unfold flow1 at h
 simp only at h
 split at h
 ·cases h
 · rename_i o ho
   split at h
   ·cases h
   -- barred by its guard
   · rename_i hg
     split at h
     · rename_i d hd
       cases hn:Nat.blt d C.n with
       |false=>rw[hn]at h;cases h
       | true=>
         rw[hn]at h;simp only[cond_true]at h
         split at h
         · cases h
           exact⟨⟨hbig,belS_cons (by simp only[bel]) hsl,hme,hnw⟩,Nat.le_refl _,fun σ k=>Fw.skip (.inl rfl) ho (grdA_grd hg) hd hn (k σ fun _ _=>rfl)⟩
         · cases h
           exact⟨⟨hbig,belS_cons (by simp only[bel]) hsl,hme,hnw⟩,Nat.le_refl _,fun σ k=>Fw.skip (.inr (.inl rfl)) ho (grdA_grd hg) hd hn (k σ fun _ _=>rfl)⟩
         · cases hni:notIn i s.N with
           |false=>rw[hni]at h;cases h
           | true=>
             rw[hni]at h;cases h
             exact⟨⟨hbig,belS_cons (by simp only[bel]) hsl,hme,hnw⟩,Nat.le_refl _,fun σ k=>Fw.skipM ho (grdA_grd hg) hd hn (notIn_ok hni) (k σ fun _ _=>rfl)⟩
         · cases h
           exact⟨⟨hbig,belS_cons (by simp only[bel]) hsl,hme,hnw⟩,Nat.le_refl _,fun σ k=>Fw.skip (.inr (.inr rfl)) ho (grdA_grd hg) hd hn (k σ fun _ _=>rfl)⟩
         ·cases h
     ·cases h
   · rename_i hg
     split at h
     -- kind 0
     · split at h
       · rename_i d v hd hr
         cases hn:Nat.blt d C.n with
         |false=>rw[hn]at h;cases h
         | true=>
           rw[hn]at h;cases h
           have hok:=execA_ok hbig hsl hT hr
           exact⟨⟨hbig,belS_cons hok.1 hsl,hme,hnw⟩,Nat.le_refl _,fun σ k=>Fw.free ho (grdA_grd hg) hd hn (hok.2 σ) (k σ fun _ _=>rfl)⟩
       ·cases h
     -- kind 1
     · split at h
       · rename_i d v hd hr
         cases hn:Nat.blt d C.n with
         |false=>rw[hn]at h;cases h
         | true=>
           rw[hn]at h;cases h
           have hok:=execA_ok hbig hsl (belM_append (belM_avail hnw) hme) hr
           refine⟨⟨hbig,belS_cons hok.1 hsl,hme,hnw⟩,Nat.le_refl _,fun σ k=>Fw.rd ho (grdA_grd hg) hd hn ?_ (k σ fun _ _=>rfl)⟩
           rw[avail_newsV,←mem_append]
           exact hok.2 σ
       ·cases h
     -- kind 2
     · split at h
       · rename_i d v N k' hd hr
         cases hn:(Nat.blt d C.n&&notIn i s.N)with
         |false=>rw[hn]at h;cases h
         | true=>
           rw[hn]at h;cases h
           rw[Bool.and_eq_true]at hn
           obtain⟨h1,h2,h3,h4⟩:=execA_ok hbig hsl (belM_append (belM_avail hnw) hme) hr
           refine⟨⟨Nat.le_trans hbig h1,belS_cons h2 (belS_up h1 hsl),belM_up h1 hme,belM_append h3 (belM_up h1 hnw)⟩,h1,fun σ k=>?_⟩
           have hmk:=h4 σ
           rw[mem_append,←avail_newsV]at hmk
           refine Fw.mkG ho (grdA_grd hg) hd hn.1 (notIn_ok hn.2) hmk ?_
           rintro _ _ ⟨σ',he,rfl,rfl⟩
           have:=k σ' he
           rw[inst_cons,←inst_ext he hsl,←mem_ext he hme,←mem_ext he hT]at this
           have e1:newsV σ' ((i,N)::s.N)=(i,mem σ' N)::newsV σ s.N:=by rw[newsV_ext he hnw];rfl
           rw[e1]at this
           exact this
       ·cases h
     -- kind 3
     · split at h
       · rename_i d f vs hd he
         split at h
         · rename_i v M' k' hf
           cases hn:(Nat.blt d C.n&&belB s.k v)with
           |false=>rw[hn]at h;cases h
           | true=>
             rw[hn]at h;cases h
             rw[Bool.and_eq_true]at hn
             have hbv:=belB_ok v hn.2
             have hA:=belM_append (belM_avail (deps:=deps) hnw) hme
             have hk:=hF _ _ _ _ _ _ _ hf hbig (entA_bel hbig hsl he) (roM_bel hA)
             refine⟨⟨hbig,belS_cons hbv hsl,hme,hnw⟩,Nat.le_refl _,fun σ k=>?_⟩
             refine Fw.callQ (Γ1:=mem σ (roM (availN s.N deps++s.M))) ho (grdA_grd hg) hd hn.1 (entA_ok he σ) (Does.mono (hk.does σ) ?_) roM_owns (fun w hw=>roM_oks ?_) (k σ fun _ _=>rfl)
             · rintro _ _ ⟨σ',he',rfl,_⟩
               exact(val_ext (fun i hi=>he' i hi) v hbv).symm
             ·rw[mem_append,←avail_newsV];exact hw
         ·cases h
       ·cases h
     -- kind 4
     · split at h
       · rename_i d f vs hd he
         split at h
         · rename_i v M' k' hf
           cases hn:(Nat.blt d C.n&&notIn i s.N&&o.guard.isNone)with
           |false=>rw[hn]at h;cases h
           | true=>
             rw[hn]at h;cases h
             simp only[Bool.and_eq_true,Option.isNone_iff_eq_none]at hn
             obtain⟨⟨n1,n2⟩,n3⟩:=hn
             have hA:=belM_append (belM_avail (deps:=deps) hnw) hme
             have hk:=hF _ _ _ _ _ _ _ hf hbig (entA_bel hbig hsl he) (roM_bel hA)
             refine⟨⟨Nat.le_trans hbig hk.le,belS_cons hk.bval (belS_up hk.le hsl),belM_up hk.le hme,belM_append (belM_filter hk.bmem) (belM_up hk.le hnw)⟩,hk.le,fun σ k=>?_⟩
             refine Fw.callM (Γ1:=mem σ (roM (availN s.N deps++s.M))) ho n3 hd n1 (notIn_ok n2) (entA_ok he σ) (Does.keep (p:=fun c=>Nat.ble s.k c.i&& !isRo c) (hk.does σ)) roM_owns (fun w hw=>roM_oks (by rw[mem_append,←avail_newsV];exact hw)) ?_
             rintro _ _ ⟨σ',he',rfl,rfl⟩
             refine⟨newM_reads,?_⟩
             have:=k σ' he'
             rw[inst_cons,←inst_ext he' hsl,←mem_ext he' hme,←mem_ext he' hT]at this
             have e1:newsV σ' ((i,newM s.k M')::s.N)=(i,mem σ' (newM s.k M'))::newsV σ s.N:=by rw[newsV_ext he' hnw];rfl
             rw[e1]at this
             exact this
         ·cases h
       ·cases h
     -- kind 5
     · cases hgn : o.guard.isNone with
       |false=>rw[hgn]at h;cases h
       | true=>
         rw[hgn]at h;simp only[cond_true]at h
         have hg0:=Option.isNone_iff_eq_none.1 hgn
         have hA:=belM_append hnw hme
         have eA:∀σ,mem σ (flatN s.N++s.M)=flat (newsV σ s.N)++mem σ s.M:=fun σ=>by rw[mem_append,flat_newsV]
         split at h
         · rename_i r hr
           have hok:=execA_ok hbig hsl hA hr
           split at h
           · rename_i s1 hp
             cases hth:thB Th s1.M with
             |false=>rw[hth]at h;cases h
             | true=>
               rw[hth]at h;cases h
               unfold putA at hp
               split at hp
               · split at hp
                 · rename_i d hd
                   cases hn:Nat.blt d C.n with
                   |false=>rw[hn]at hp;cases hp
                   | true=>
                     rw[hn]at hp;cases hp
                     refine⟨⟨hbig,belS_cons hok.1 hsl,hA,fun c hc=>by cases hc⟩,Nat.le_refl _,fun σ k=>?_⟩
                     have hge:=Ge.ofRd (hok.2 σ)
                     rw[eA]at hge
                     refine Fw.ge ho hg0 hd hn hge ?_
                     rintro _ _ ⟨rfl,rfl⟩
                     have:=k σ fun _ _=>rfl
                     rw[eA]at this
                     exact⟨fun w hw=>thB_oks hth w (by rw[eA];exact hw),this⟩
                 ·cases hp
               · split at hp
                 ·cases hp
                 · rename_i hd
                   cases hp
                   refine⟨⟨hbig,hsl,hok.1,fun c hc=>by cases hc⟩,Nat.le_refl _,fun σ k=>?_⟩
                   have hup:=hok.2 σ
                   rw[eA]at hup
                   exact Fw.up ho hg0 hd hup (thB_oks hth) (k σ fun _ _=>rfl)
               · rename_i v N k'
                 obtain⟨h1,h2,h3,h4⟩:=hok
                 split at hp
                 · rename_i d hd
                   cases hn:Nat.blt d C.n with
                   |false=>rw[hn]at hp;cases hp
                   | true=>
                     rw[hn]at hp;cases hp
                     refine⟨⟨Nat.le_trans hbig h1,belS_cons h2 (belS_up h1 hsl),belM_append h3 (belM_up h1 hA),fun c hc=>by cases hc⟩,h1,fun σ k=>?_⟩
                     have hge:=Ge.ofMk (h4 σ)
                     rw[eA]at hge
                     refine Fw.ge ho hg0 hd hn hge ?_
                     rintro _ _ ⟨_,⟨σ',he,rfl,rfl⟩,rfl⟩
                     have:=k σ' he
                     have e2:mem σ' (N++(flatN s.N++s.M))=mem σ' N++(flat (newsV σ s.N)++mem σ s.M):=by rw[mem_append,←mem_ext he hA,eA]
                     rw[inst_cons,←inst_ext he hsl,←mem_ext he hT,e2]at this
                     refine⟨fun w hw=>?_,this⟩
                     have:=thB_oks (σ:=σ') hth w (by rw[e2];exact hw)
                     rw[←mem_ext he hT]at this
                     exact this
                 ·cases hp
               · rename_i v M' k'
                 obtain⟨h1,h2,h3,h4⟩:=hok
                 split at hp
                 · rename_i d hd
                   cases hn:Nat.blt d C.n with
                   |false=>rw[hn]at hp;cases hp
                   | true=>
                     rw[hn]at hp;cases hp
                     refine⟨⟨Nat.le_trans hbig h1,belS_cons h2 (belS_up h1 hsl),h3,fun c hc=>by cases hc⟩,h1,fun σ k=>?_⟩
                     have hge:=h4 σ
                     rw[eA]at hge
                     refine Fw.ge ho hg0 hd hn hge ?_
                     rintro _ _ ⟨σ',he,rfl,rfl⟩
                     have:=k σ' he
                     rw[inst_cons,←inst_ext he hsl,←mem_ext he hT]at this
                     refine⟨fun w hw=>?_,this⟩
                     have:=thB_oks (σ:=σ') hth w hw
                     rw[←mem_ext he hT]at this
                     exact this
                 ·cases hp
           ·cases h
         · split at h
           · rename_i f vs d he hd
             split at h
             · rename_i v M' k' hf
               cases hn:(Nat.blt d C.n&&thB Th M')with
               |false=>rw[hn]at h;cases h
               | true=>
                 rw[hn]at h;cases h
                 rw[Bool.and_eq_true]at hn
                 have hk:=hF _ _ _ _ _ _ _ hf hbig (entA_bel hbig hsl he) hA
                 refine⟨⟨Nat.le_trans hbig hk.le,belS_cons hk.bval (belS_up hk.le hsl),hk.bmem,fun c hc=>by cases hc⟩,hk.le,fun σ k=>?_⟩
                 have hdo:=hk.does σ
                 rw[eA]at hdo
                 refine Fw.call _ ho hg0 hd hn.1 (entA_ok he σ) (pull_all _) hdo ?_
                 rintro _ _ ⟨σ',he',rfl,rfl⟩
                 have:=k σ' he'
                 rw[inst_cons,←inst_ext he' hsl,←mem_ext he' hT]at this
                 rw[List.append_nil]
                 refine⟨fun w hw=>?_,this⟩
                 have:=thB_oks (σ:=σ') hn.2 w hw
                 rw[←mem_ext he' hT]at this
                 exact this
             ·cases h
           ·cases h
     ·cases h
theorem flowA_to(hF:CallsOk P F):∀(ms:List Meta) (s s':FS),s.Good→belM s.k Th→flowA S F C.n l Th ms s=some s'→s'.Good∧s.k≤s'.k∧∀σ,
    (∀σ',Sup s.k σ σ'→To C (inst σ' s'.ρ) (mem σ' (flatN s'.N++s'.M)) Q)→FlowS P noT l (mem σ Th) Q ms C (inst σ s.ρ) (mem σ s.M) (newsV σ s.N)
 | [],s,s',hs,_,h=>by
   simp only[flowA,Option.some.injEq]at h;subst h
   refine⟨hs,Nat.le_refl _,fun σ k=>Fw.fin ?_⟩
   have:=k σ fun _ _=>rfl
   rw[mem_append,←flat_newsV]at this
   exact this
 | m ::r,s,s',hs,hT,h=>by
   unfold flowA at h
   split at h
   · rename_i s1 h1
     obtain⟨g1,g2,g3⟩:=flow1_to (Q:=Q) (ms:=r) hF hs hT h1
     obtain⟨a,b,c⟩:=flowA_to hF r s1 s' g1 (belM_up g2 hT) h
     exact⟨a,Nat.le_trans g2 b,fun σ k=>g3 σ fun σ' he=>c σ' fun σ'' he'=>k σ'' (Sup.trans g2 he he')⟩
   ·cases h
end
end Go.In

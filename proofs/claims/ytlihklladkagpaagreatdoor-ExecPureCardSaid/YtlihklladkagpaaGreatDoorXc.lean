/- Own text. -/
import Derived.Test.YtlihklladkagpaaGreatDoorXb
set_option linter.unusedVariables false
set_option linter.unusedSimpArgs false
set_option maxHeartbeats 2000000
set_option maxRecDepth 100000
namespace Go.Proofs.YtlihklladkagpaaGreatDoor
open Go.Proofs.Tryz
open Go.RowKit Go.Flow Go.Mem Go.Sep
theorem flatEn:FlatTy prog 142 [.i64, .i64]:=⟨⟨_,underlying142,by kernel_rfl⟩,by kernel_rfl,by kernel_rfl⟩
theorem arrPr:Arr2 prog 92:=by
 obtain⟨i,hi⟩:∃i,prog.info? 2=some i:=Option.isSome_iff_exists.1 (by kernel_rfl)
 exact⟨⟨2,i,underlying92,underlying2,hi,by kernel_rfl⟩,by kernel_rfl⟩
theorem pair_iff{x y:Int×Int}:[x.1,x.2]=[y.1,y.2]↔x=y:=by cases x;cases y;simp
theorem eq_len{α:Type}{l m:List α}{i:Nat}(h1:l.length=m.length)(h2:l.length≤i)(h:l.take i=m.take i):l=m:=by
 rwa[List.take_of_length_le h2,List.take_of_length_le om]at h
theorem eq_ne{α:Type}{l m:List α}{i:Nat}{x y:α}(hx:l[i]?=some x)(hy:m[i]?=some y)(h:x≠y):l≠m:=fun e=>h (by rw[e,hy]at hx;exact(Option.some.inj hx).symm)
theorem sameArgs_fn(A B:OA)(ca cb:Nat)(l m:List Int)(hl:l.length≤1000000000000):
    Dz 38 [vs A l ca,vs B m cb] [ros encI A l,ros encI B m] (fun v _=>v= .bool (decide (l=m))):=by
 refine Does.en func38 ntmps38 fun w0=>?_
 refine Jz 15 ?_
 refine Jcp rfl ?_ ?_<;>intro c10
 refine Jz 7 ?_
 refine Je1 results38 ?_
 exact congrArg Value.bool (decide_eq_false (fun e=>c10 (by rw[e]))).symm
 refine Jz 11 ?_
 refine Jonly [0,0] rfl (JloopS (fun mz ρ Γ=>∃(i:Nat),ρ=[(0,vs A l ca),(1,vs B m cb),(11,vs A l ca),(12,nv l.length),(13,nv i)]∧Γ=[ros encI A l,ros encI B m]∧mz=l.length-i∧(i≤l.length)∧(l.take i=m.take i)) (l.length-0) ⟨⟨0,rfl,rfl,rfl,om,rfl⟩,sb⟩ ?_)
 rintro mz _ _ ⟨i,rfl,rfl,rfl,hi,hI⟩
 refine Jz 6 ?_
 refine Jcp rfl ?_ ?_<;>intro c14
 obtain⟨x,hx⟩:=exg l i om
 obtain⟨y,hy⟩:=exg m i om
 refine Jz 11 ?_
 refine Jfw [ros encI A l,ros encI B m] [0,1,4,5,102,103,106,107,8] (ocs (oca 0 rfl) (ocs (oca 1 rfl) (ocn _))) ?_
 refine Jz 11 ?_
 refine Jcp rfl ?_ ?_<;>intro c24
 refine Jz 11 ?_
 refine Je1 results38 ?_
 exact congrArg Value.bool (decide_eq_false (eq_ne hx hy c24)).symm
 refine Jz 8 ?_
 refine Jonly [0,0] rfl (To.agT ⟨⟨i+1,rfl,rfl,rfl,om,(by rw[take_of_get hx,take_of_get hy,hI,show x=y from Decidable.of_not_not c24])⟩,sb⟩)
 refine Jz 11 ?_
 refine Je1 results38 ?_
 exact congrArg Value.bool (decide_eq_true (eq_len om om hI)).symm
theorem eq64_fn(A B:OA)(ca cb:Nat)(l m:List Int)(hl:l.length≤1000000000000):
    Dz 76 [vs A l ca,vs B m cb] [ros encI A l,ros encI B m] (fun v _=>v= .bool (decide (l=m))):=by
 refine Does.en func76 ntmps76 fun w0=>?_
 refine Jz 15 ?_
 refine Jcp rfl ?_ ?_<;>intro c10
 refine Jz 7 ?_
 refine Je1 results76 ?_
 exact congrArg Value.bool (decide_eq_false (fun e=>c10 (by rw[e]))).symm
 refine Jz 11 ?_
 refine Jonly [0,0] rfl (JloopS (fun mz ρ Γ=>∃(i:Nat),ρ=[(0,vs A l ca),(1,vs B m cb),(11,vs A l ca),(12,nv l.length),(13,nv i)]∧Γ=[ros encI A l,ros encI B m]∧mz=l.length-i∧(i≤l.length)∧(l.take i=m.take i)) (l.length-0) ⟨⟨0,rfl,rfl,rfl,om,rfl⟩,sb⟩ ?_)
 rintro mz _ _ ⟨i,rfl,rfl,rfl,hi,hI⟩
 refine Jz 6 ?_
 refine Jcp rfl ?_ ?_<;>intro c14
 obtain⟨x,hx⟩:=exg l i om
 obtain⟨y,hy⟩:=exg m i om
 refine Jz 11 ?_
 refine Jfw [ros encI A l,ros encI B m] [0,1,4,5,102,103,106,107,8] (ocs (oca 0 rfl) (ocs (oca 1 rfl) (ocn _))) ?_
 refine Jz 11 ?_
 refine Jcp rfl ?_ ?_<;>intro c24
 refine Jz 11 ?_
 refine Je1 results76 ?_
 exact congrArg Value.bool (decide_eq_false (eq_ne hx hy c24)).symm
 refine Jz 8 ?_
 refine Jonly [0,0] rfl (To.agT ⟨⟨i+1,rfl,rfl,rfl,om,(by rw[take_of_get hx,take_of_get hy,hI,show x=y from Decidable.of_not_not c24])⟩,sb⟩)
 refine Jz 11 ?_
 refine Je1 results76 ?_
 exact congrArg Value.bool (decide_eq_true (eq_len om om hI)).symm
theorem eqEn_fn(A B:OA)(ca cb:Nat)(l m:List (Int×Int))(hl:l.length≤1000000000000):
    Dz 125 [vs A l ca,vs B m cb] [ros encEn A l,ros encEn B m] (fun v _=>v= .bool (decide (l=m))):=by
 refine Does.en func125 ntmps125 fun w0=>?_
 refine Jz 15 ?_
 refine Jcp rfl ?_ ?_<;>intro c10
 refine Jz 7 ?_
 refine Je1 results125 ?_
 exact congrArg Value.bool (decide_eq_false (fun e=>c10 (by rw[e]))).symm
 refine Jz 11 ?_
 refine Jonly [0,0] rfl (JloopS (fun mz ρ Γ=>∃(i:Nat),ρ=[(0,vs A l ca),(1,vs B m cb),(11,vs A l ca),(12,nv l.length),(13,nv i)]∧Γ=[ros encEn A l,ros encEn B m]∧mz=l.length-i∧(i≤l.length)∧(l.take i=m.take i)) (l.length-0) ⟨⟨0,rfl,rfl,rfl,om,rfl⟩,sb⟩ ?_)
 rintro mz _ _ ⟨i,rfl,rfl,rfl,hi,hI⟩
 refine Jz 6 ?_
 refine Jcp rfl ?_ ?_<;>intro c14
 obtain⟨x,hx⟩:=exg l i om
 obtain⟨y,hy⟩:=exg m i om
 refine Jz 11 ?_
 refine Jfw [ros encEn A l,ros encEn B m] [0,1,4,5,102,103,106,107,8] (ocs (oca 0 rfl) (ocs (oca 1 rfl) (ocn _))) ?_
 refine Jz 8 ?_
 refine Fw.f rfl (Rd.as (v':= .bool (decide (x≠y))) (congrArg Value.bool (decide_eq_decide.2 (not_congr pair_iff))) (Rd.neqF (ks:=[.i64, .i64]) (xs:=[x.1,x.2]) (ys:=[y.1,y.2]) flatEn rfl rfl rfl rfl rfl)) ?_
 refine Jz 2 ?_
 refine Jcp rfl ?_ ?_<;>intro c24
 refine Jz 11 ?_
 refine Je1 results125 ?_
 exact congrArg Value.bool (decide_eq_false (eq_ne hx hy c24)).symm
 refine Jz 8 ?_
 refine Jonly [0,0] rfl (To.agT ⟨⟨i+1,rfl,rfl,rfl,om,(by rw[take_of_get hx,take_of_get hy,hI,show x=y from Decidable.of_not_not c24])⟩,sb⟩)
 refine Jz 11 ?_
 refine Je1 results125 ?_
 exact congrArg Value.bool (decide_eq_true (eq_len om om hI)).symm
theorem tabEq_fn(A B:OA)(ca cb:Nat)(l m:List (Int×Int))(hl:l.length≤1000000000000):
    Dz 78 [.agg #[vs A l ca], .agg #[vs B m cb]] [ros encEn A l,ros encEn B m] (fun v _=>v= .bool (decide (l=m))):=by
 refine Does.en func78 ntmps78 fun w0=>?_
 refine Js (To.g (Jbo fun b2=>?_))
 refine Jbo fun b3=>?_
 refine Jz 9 ?_
 refine Jvf (eqEn_fn A B ca cb l m hl) rfl (ocs (oca 2 rfl) (ocs (oca 3 rfl) (ocn _))) ?_
 refine Jz 4 ?_
 refine Je1 results78 ?_
 rfl
theorem eqTabs_fn(A B:OA)(ca cb:Nat)(l m:List Tb)(hl:l.length≤1000000000000)(hl2:∀x∈l,x.l.length≤1000000000000):
    Dz 77 [vs A l ca,vs B m cb, .func (.func 78) #[] #[]] [ros Tb.cells A l,ros Tb.cells B m,rosS encEn (l.map Tb.ar),rosS encEn (m.map Tb.ar)] (fun v _=>v= .bool (decide (l.map Tb.l=m.map Tb.l))):=by
 have hmx:∀{k:List Tb} {i:Nat} {x:Tb},k[i]?=some x→(k.map Tb.l)[i]?=some x.l:=fun h=>by rw[List.getElem?_map,h];rfl
 refine Does.en func77 ntmps77 fun w0=>?_
 refine Jz 15 ?_
 refine Jcp rfl ?_ ?_<;>intro c14
 refine Jz 7 ?_
 refine Je1 results77 ?_
 exact congrArg Value.bool (decide_eq_false (fun e=>c14 (by have:=congrArg List.length e;simp only[List.length_map]at this;rw[this]))).symm
 refine Jz 11 ?_
 refine Jonly [0,0,0,0] rfl (JloopS (fun mz ρ Γ=>∃(i:Nat),ρ=[(0,vs A l ca),(1,vs B m cb),(2, .func (.func 78) #[] #[]),(15,vs A l ca),(16,nv l.length),(17,nv i)]∧Γ=[ros Tb.cells A l,ros Tb.cells B m,rosS encEn (l.map Tb.ar),rosS encEn (m.map Tb.ar)]∧mz=l.length-i∧(i≤l.length)∧((l.map Tb.l).take i=(m.map Tb.l).take i)) (l.length-0) ⟨⟨0,rfl,rfl,rfl,om,rfl⟩,sb⟩ ?_)
 rintro mz _ _ ⟨i,rfl,rfl,rfl,hi,hI⟩
 refine Jz 6 ?_
 refine Jcp rfl ?_ ?_<;>intro c18
 obtain⟨x,hx⟩:=exg l i om
 obtain⟨y,hy⟩:=exg m i om
 refine Jz 9 ?_
 refine Jal fun b8=>?_
 refine Jz 10 ?_
 refine Jal fun b9=>?_
 refine Jz 8 ?_
 refine JcV rfl rfl rfl (Ent.func (first:=[]) (captured:=[]) rfl rfl rfl (kc.h 78 rfl)) (tabEq_fn x.A y.A x.q y.q x.l y.l (hl2 x (mog hx))) rfl (ocs (oks_S 4 rfl (mem_at hx Tb.ar)) (ocs (oks_S 5 rfl (mem_at hy Tb.ar)) (ocn _))) (Jz 3 ?_)
 refine Jcond rfl ?_ ?_<;>intro c30
 refine Jz 11 ?_
 refine Je1 results77 ?_
 exact congrArg Value.bool (decide_eq_false (eq_ne (hmx hx) (hmx hy) (by simpa using c30))).symm
 refine Jz 8 ?_
 refine Jonly [2,2,2,2] rfl (To.agT ⟨⟨i+1,rfl,rfl,rfl,om,(by rw[take_of_get (hmx hx),take_of_get (hmx hy),hI,show x.l=y.l from by simpa using c30])⟩,sb⟩)
 refine Jz 11 ?_
 refine Je1 results77 ?_
 exact congrArg Value.bool (decide_eq_true (eq_len (by simp only[List.length_map];omega) (by simp only[List.length_map];omega) hI)).symm
structure Sx where
 Av:OA
 qv:Nat
 vars:List Int
 At:OA
 qt:Nat
 tabs:List Tb
 dk:Tb
def Sx.cells(s:Sx):List Value:=[vs s.Av s.vars s.qv,vs s.At s.tabs s.qt,vs s.dk.A s.dk.l s.dk.q]
def Sx.small(s:Sx):Prop:=s.vars.length≤1000000000000∧s.tabs.length≤1000000000000∧(∀x∈s.tabs,x.l.length≤1000000000000)∧s.dk.l.length≤1000000000000
def Sx.val(s:Sx):List Int×List (List (Int×Int))×List (Int×Int):=(s.vars,s.tabs.map Tb.l,s.dk.l)
theorem xeq_fn(a b:Sx)(ha:a.small):
    Dz 43 [.agg #[vs a.Av a.vars a.qv,vs a.At a.tabs a.qt,vs a.dk.A a.dk.l a.dk.q], .agg #[vs b.Av b.vars b.qv,vs b.At b.tabs b.qt,vs b.dk.A b.dk.l b.dk.q]] [ros encI a.Av a.vars,ros Tb.cells a.At a.tabs,rosS encEn (a.tabs.map Tb.ar),ros encEn a.dk.A a.dk.l,ros encI b.Av b.vars,ros Tb.cells b.At b.tabs,rosS encEn (b.tabs.map Tb.ar),ros encEn b.dk.A b.dk.l] (fun v _=>v= .bool (decide (a.val=b.val))):=by
 refine Does.en func43 ntmps43 fun w0=>?_
 refine Js (To.g (Jbo fun b2=>?_))
 refine Jbo fun b3=>?_
 refine Jz 9 ?_
 refine Jvf (eq64_fn a.Av b.Av a.qv b.qv a.vars b.vars ha.1) rfl (ocs (oca 2 rfl) (ocs (oca 6 rfl) (ocn _))) ?_
 refine JrdP rfl rfl rfl (Rd.move rfl rfl) (fun g10=>?_) (fun g10=>?_)
 refine Jz 4 ?_
 refine Jvf (eqTabs_fn a.At b.At a.qt b.qt a.tabs b.tabs ha.2.1 ha.2.2.1) rfl (ocs (oca 3 rfl) (ocs (oca 7 rfl) (ocs (oca 4 rfl) (ocs (oca 8 rfl) (ocn _))))) ?_
 refine To.pT ?_
 refine JgP ?_ ?_<;>intro g17
 refine Jz 1 ?_
 refine Jr (Rd.lS (i:=1) (us:=[vs a.dk.A a.dk.l a.dk.q]) rfl rfl r54 rfl (box_gives (n:=1) rfl) rfl) ?_
 refine Jz 1 ?_
 refine Jr (Rd.lS (i:=0) (us:=[vs b.dk.A b.dk.l b.dk.q]) rfl rfl r54 rfl (box_gives (n:=1) rfl) rfl) ?_
 refine Jvf (tabEq_fn a.dk.A b.dk.A a.dk.q b.dk.q a.dk.l b.dk.l ha.2.2.2) rfl (ocs (oca 5 rfl) (ocs (oca 9 rfl) (ocn _))) ?_
 refine Jz 5 ?_
 refine Je1 results43 ?_
 refine congrArg Value.bool ?_
 simp[Sx.val,g10,g17]
 refine Jz 10 ?_
 refine Je1 results43 ?_
 refine congrArg Value.bool ?_
 simp[Sx.val,g10,g17]
 refine Jz 17 ?_
 refine Je1 results43 ?_
 refine congrArg Value.bool ?_
 simp[Sx.val,g10]
theorem pairs_fn(A:OA)(q n:Nat)(l:List (Int×Int))(hq:l.length≤q):
    Dz 29 [vs A l q,nv n] [] (fun v _=>v= .slice A (l.take n).length q):=by
 refine Does.en func29 ntmps29 fun w0=>?_
 refine Jz 6 ?_
 have hln:(l.take n).length≤q:=by rw[List.length_take];omega
 refine Jz 5 ?_
 refine Jr (Rd.minTake (l:=l) (n:=n) rfl rfl rfl) ?_
 refine Jr (Rd.sliceHi (hi:=((l.take n).length)) rfl s29 rfl rfl om) ?_
 refine Jz 4 ?_
 refine Je1 results29 ?_
 rfl
def pin(k v:Int):Bool→List (Int×Int)→List (Int×Int)
 |d,[]=>if d=true then []else [(k,v)]
 |d,y::r=>if d=false∧k<y.1 then(k,v)::y::pin k v true r else y::pin k v d r
theorem pin_at{k v:Int}{d:Bool}{O:List (Int×Int)}{j:Nat}{y:Int×Int}(hy:O[j]?=some y):pin k v d (O.drop j)=if d=false∧k<y.1 then(k,v)::y::pin k v true (O.drop (j+1))else y::pin k v d (O.drop (j+1)):=by rw[dog hy];rfl
def rputT(t:List (Int×Int))(k v:Int):List (Int×Int):=pin k v false (delT t k)
def rofT(l:List (Int×Int)):List (Int×Int):=l.foldl (fun t e=>rputT t e.1 e.2) []
theorem pin_true(k v:Int):∀O:List (Int×Int),pin k v true O=O
 |[]=>rfl
 |y::r=>by rw[pin,if_neg (fun e=>by cases e.1),pin_true k v r]
theorem pin_len(k v:Int):∀O:List (Int×Int),(pin k v false O).length=O.length+1
 |[]=>rfl
 | y::r=>by
   rw[pin];split
   ·simp[pin_true]
   ·simp[pin_len k v r]
theorem delT_len(t:List (Int×Int))(k:Int):(delT t k).length≤t.length:=List.length_filter_le _ _
theorem rput_len(t:List (Int×Int))(k v:Int):(rputT t k v).length≤t.length+1:=by rw[rputT,pin_len];have:=delT_len t k;omega
theorem rof_len(l:List (Int×Int)):(rofT l).length≤l.length:=by
 suffices ∀(l t:List (Int×Int)),(l.foldl (fun t e=>rputT t e.1 e.2) t).length≤l.length+t.length from this l []
 intro l
 induction l with
 |nil=>intro t;simp
 |cons x l ih=>intro t;have h1:=ih (rputT t x.1 x.2);have h2:=rput_len t x.1 x.2;rw[List.foldl_cons,lc1];omega
theorem rof_snoc{l:List (Int×Int)}{i:Nat}{x:Int×Int}(hx:l[i]?=some x):rofT (l.take (i+1))=rputT (rofT (l.take i)) x.1 x.2:=by rw[take_of_get hx];simp[rofT]
theorem delT_snoc{l:List (Int×Int)}{i:Nat}{x:Int×Int}{k:Int}(hx:l[i]?=some x):delT (l.take (i+1)) k=delT (l.take i) k++(if x.1≠k then [x]else []):=by
 rw[take_of_get hx,delT,List.filter_append]
 unfold delT
 by_cases h:x.1=k<;>simp[h]
theorem rdel_fn(A:OA)(ca:Nat)(l:List (Int×Int))(k:Int)(hl:l.length≤1000):
    Dz 69 [vs A l ca, .int .i64 k] [ros encEn A l] (fun r Γ'=>∃B q,r= .slice B (delT l k).length q∧Γ'=[rows encEn 92 2 B q (delT l k)]):=by
 refine Does.en func69 ntmps69 fun w0=>?_
 refine Jz 6 ?_
 refine JnilRow (encEn) 92 2 (Jz 13 ?_)
 refine Jonly [1,0] rfl (JloopS (fun mz ρ Γ=>∃(Ao:OA) (qo:Nat) (O:List (Int×Int)) (i:Nat),ρ=[(1, .int .i64 k),(5,vs Ao O qo),(8,vs A l ca),(9,nv l.length),(10,nv i)]∧Γ=[ros encEn A l,rows encEn 92 2 Ao qo O]∧mz=l.length-i∧(i≤l.length)∧(O=delT (l.take i) k)) (l.length-0) ⟨⟨none,0,([]:List (Int×Int)),0,rfl,rfl,rfl,om,rfl⟩,sb⟩ ?_)
 rintro mz _ _ ⟨Ao,qo,O,i,rfl,rfl,rfl,hi,hO⟩
 have hOl:O.length≤l.length:=by rw[hO];exact Nat.le_trans (delT_len _ _) (by rw[List.length_take];omega)
 refine Jz 6 ?_
 refine Jcp rfl ?_ ?_<;>intro c11
 obtain⟨x,hx⟩:=exg l i om
 refine Jz 8 ?_
 refine Jal fun b7=>?_
 refine Jz 5 ?_
 refine Jr (Rd.indexArr (j:=0) rfl (ArrTy.of (size:=1) underlying92 (by kernel_rfl)) rfl rfl (by decide)) ?_
 refine Jz 5 ?_
 refine Jcp rfl ?_ ?_<;>intro c17
 refine Jz 3 ?_
 refine To.sn [.int .i64 x.1, .int .i64 x.2] fun b20=>?_
 refine Jge rfl rfl rfl (Ge.append1 encEn_ok (i:=3) (j:=0) (el:=x) rfl s58 rfl rfl rfl rfl rfl om om) ?_
 rintro _ _ ⟨A21,q21,rfl,rfl⟩
 refine Jz 9 ?_
 refine Jonly [2,2] rfl (To.agT ⟨⟨A21,q21,(O++[x]),i+1,rfl,rfl,rfl,om,(by rw[delT_snoc hx,←hO,if_pos c17])⟩,sb⟩)
 refine Jz 8 ?_
 refine Jonly [1,1] rfl (To.agT ⟨⟨Ao,qo,O,i+1,rfl,rfl,rfl,om,(by rw[delT_snoc hx,←hO,if_neg c17];simp)⟩,sb⟩)
 refine Jz 12 ?_
 refine Jonly [1] rfl (Je1 results69 ?_)
 rw[show l.take i=l from List.take_of_length_le om]at hO
 exact⟨_,_,by rw[hO],by rw[hO]⟩
theorem rput_fn(A:OA)(ca:Nat)(l:List (Int×Int))(k v:Int)(hl:l.length≤1000):
    Dz 58 [vs A l ca, .int .i64 k, .int .i64 v] [ros encEn A l] (fun r Γ'=>∃B q,r= .slice B (rputT l k v).length q∧Γ'=[rows encEn 92 2 B q (rputT l k v)]):=by
 refine Does.en func58 ntmps58 fun w0=>?_
 refine Jz 6 ?_
 refine JnilRow (encEn) 92 2 (Jz 14 ?_)
 refine Jqf (rdel_fn A ca l k hl) rfl (ocs (oca 1 rfl) (ocn _)) ?_
 rintro _ _ ⟨Bd,qd,rfl,rfl⟩
 refine⟨rfl,?_⟩
 refine Jz 5 ?_
 refine To.nm ?_
 obtain⟨D,hD⟩:∃z0,z0=(delT l k):=⟨_,rfl⟩
 rw[←hD]
 have hDl:D.length≤l.length:=by rw[hD];exact delT_len _ _
 refine Jonly [0,0] rfl (JloopS (fun mz ρ Γ=>∃(nx:List (Int×Int)) (An:OA) (qn:Nat) (d:Bool) (j:Nat),ρ=[(1, .int .i64 k),(2, .int .i64 v),(7,vs An nx qn),(8, .bool d),(13,vs Bd D qd),(14,nv D.length),(15,nv j)]∧Γ=[rows encEn 92 2 Bd qd D,rows encEn 92 2 An qn nx]∧mz=D.length-j∧(j≤D.length)∧((d=false→nx.length≤j)∧nx.length≤j+1)∧(pin k v false D=nx++pin k v d (D.drop j))) (D.length-0) ⟨⟨([]:List (Int×Int)),none,0,false,0,rfl,rfl,rfl,om,⟨fun _=>Nat.le_refl _,Nat.zero_le _⟩,rfl⟩,sb⟩ ?_)
 rintro mz _ _ ⟨nx,An,qn,d,j,rfl,rfl,rfl,hj,hn,hI⟩
 refine Jz 6 ?_
 refine Jcp rfl ?_ ?_<;>intro c16
 obtain⟨x,hx⟩:=exg D j om
 refine Jz 8 ?_
 refine Jal fun b10=>?_
 refine Jz 8 ?_
 refine JgB ?_ ?_<;>intro g21
 refine Jr (Rd.indexArr (j:=0) rfl (ArrTy.of (size:=1) underlying92 (by kernel_rfl)) rfl rfl (by decide)) ?_
 refine Jz 6 ?_
 refine Jcp rfl ?_ ?_<;>intro c26
 refine Jz 5 ?_
 refine Jr (.bd [.int .i64 k, .int .i64 v]) ?_
 refine To.sn [.int .i64 k, .int .i64 v] fun b31=>?_
 refine Jge rfl rfl rfl (Ge.append1 encEn_ok (i:=3) (j:=0) (el:=(k,v)) rfl s58 rfl rfl rfl rfl rfl om om) ?_
 rintro _ _ ⟨A32,q32,rfl,rfl⟩
 refine Jz 10 ?_
 refine To.sn [.int .i64 x.1, .int .i64 x.2] fun b35=>?_
 refine Jge rfl rfl rfl (Ge.append1 encEn_ok (i:=4) (j:=0) (el:=x) rfl s58 rfl rfl rfl rfl rfl om om) ?_
 rintro _ _ ⟨A36,q36,rfl,rfl⟩
 refine Jz 9 ?_
 refine Jonly [3,3] rfl (To.agT ⟨⟨(nx++[(k,v)]++[x]),A36,q36,true,j+1,rfl,rfl,rfl,om,⟨fun e=>(by cases e),by simp only[lap,lc1,ln0];simp at g21;have:=hn.1 g21;omega⟩,(by rw[hI,pin_at hx,if_pos ⟨by simpa using g21,c26⟩];simp)⟩,sb⟩)
 refine Jz 5 ?_
 refine To.sn [.int .i64 x.1, .int .i64 x.2] fun b35_2=>?_
 refine Jge rfl rfl rfl (Ge.append1 encEn_ok (i:=3) (j:=0) (el:=x) rfl s58 rfl rfl rfl rfl rfl om om) ?_
 rintro _ _ ⟨A36_2,q36_2,rfl,rfl⟩
 refine Jz 9 ?_
 refine Jonly [2,2] rfl (To.agT ⟨⟨(nx++[x]),A36_2,q36_2,d,j+1,rfl,rfl,rfl,om,⟨fun e=>(by have:=hn.1 e;simp only[lap,lc1,ln0];omega),by simp only[lap,lc1,ln0];omega⟩,(by rw[hI,pin_at hx,if_neg (fun e=>c26 e.2)];simp)⟩,sb⟩)
 refine Jz 13 ?_
 refine To.sn [.int .i64 x.1, .int .i64 x.2] fun b35_3=>?_
 refine Jge rfl rfl rfl (Ge.append1 encEn_ok (i:=3) (j:=0) (el:=x) rfl s58 rfl rfl rfl rfl rfl om om) ?_
 rintro _ _ ⟨A36_3,q36_3,rfl,rfl⟩
 refine Jz 9 ?_
 refine Jonly [2,2] rfl (To.agT ⟨⟨(nx++[x]),A36_3,q36_3,d,j+1,rfl,rfl,rfl,om,⟨fun e=>(by have:=hn.1 e;simp only[lap,lc1,ln0];omega),by simp only[lap,lc1,ln0];omega⟩,(by rw[hI,pin_at hx,if_neg (fun e=>by simp[e.1]at g21)];simp)⟩,sb⟩)
 refine Jz 12 ?_
 refine Jcond rfl ?_ ?_<;>intro c39
 refine Jz 4 ?_
 refine Jr (.bd [.int .i64 k, .int .i64 v]) ?_
 refine To.sn [.int .i64 k, .int .i64 v] fun b44=>?_
 refine Jge rfl rfl rfl (Ge.append1 encEn_ok (i:=2) (j:=0) (el:=(k,v)) rfl s58 rfl rfl rfl rfl rfl om om) ?_
 rintro _ _ ⟨A45,q45,rfl,rfl⟩
 refine Jz 10 ?_
 have hfin:rputT l k v=nx++[(k,v)]:=by rw[rputT,←hD,hI,List.drop_eq_nil_of_le om];rcases d with _|_<;>first|(exact absurd c39 (by decide))|simp[pin]
 refine Jonly [2] rfl (Je1 results58 ?_)
 exact⟨_,_,by rw[hfin],by rw[hfin]⟩
 refine Jz 9 ?_
 have hfin:rputT l k v=nx:=by rw[rputT,←hD,hI,List.drop_eq_nil_of_le om];rcases d with _|_<;>first|(exact absurd c39 (by decide))|simp[pin]
 refine Jonly [1] rfl (Je1 results58 ?_)
 exact⟨_,_,by rw[hfin],by rw[hfin]⟩
theorem rof_fn(A:OA)(ca:Nat)(l:List (Int×Int))(hl:l.length≤1000):
    Dz 30 [vs A l ca] [ros encEn A l] (fun r Γ'=>∃B q,r= .slice B (rofT l).length q∧Γ'=[rows encEn 92 2 B q (rofT l)]):=by
 refine Does.en func30 ntmps30 fun w0=>?_
 refine Jz 6 ?_
 refine JnilRow (encEn) 92 2 (Jz 13 ?_)
 refine Jonly [1,0] rfl (JloopS (fun mz ρ Γ=>∃(Ao:OA) (qo:Nat) (O:List (Int×Int)) (i:Nat),ρ=[(3,vs Ao O qo),(6,vs A l ca),(7,nv l.length),(8,nv i)]∧Γ=[ros encEn A l,rows encEn 92 2 Ao qo O]∧mz=l.length-i∧(i≤l.length)∧(O=rofT (l.take i))) (l.length-0) ⟨⟨none,0,([]:List (Int×Int)),0,rfl,rfl,rfl,om,rfl⟩,sb⟩ ?_)
 rintro mz _ _ ⟨Ao,qo,O,i,rfl,rfl,rfl,hi,hO⟩
 have hOl:O.length≤l.length:=by rw[hO];exact Nat.le_trans (rof_len _) (by rw[List.length_take];omega)
 refine Jz 6 ?_
 refine Jcp rfl ?_ ?_<;>intro c9
 obtain⟨x,hx⟩:=exg l i om
 refine Jz 8 ?_
 refine Jal fun b5=>?_
 refine Jz 5 ?_
 refine Jr (Rd.indexArr (j:=0) rfl (ArrTy.of (size:=1) underlying92 (by kernel_rfl)) rfl rfl (by decide)) ?_
 refine Jz 1 ?_
 refine Jr (Rd.indexArr (j:=1) rfl (ArrTy.of (size:=1) underlying92 (by kernel_rfl)) rfl rfl (by decide)) ?_
 refine Jz 1 ?_
 refine Jqf (rput_fn Ao qo O x.1 x.2 om) rfl (ocs (oks_row 2 rfl) (ocn _)) ?_
 rintro _ _ ⟨B,q,rfl,rfl⟩
 refine⟨rfl,?_⟩
 refine Jz 9 ?_
 refine Jonly [2,0] rfl (To.agT ⟨⟨B,q,(rputT O x.1 x.2),i+1,rfl,rfl,rfl,om,(by rw[rof_snoc hx,←hO])⟩,sb⟩)
 refine Jz 12 ?_
 refine Jonly [1] rfl (Je1 results30 ?_)
 rw[show l.take i=l from List.take_of_length_le om]at hO
 exact⟨_,_,by rw[hO],by rw[hO]⟩
open Go.Sep
def cmpE(x y:Int×Int):Int:=cmpI x.1 y.1
theorem cmp_cmpE:Cmp cmpE:=cmp_cmpI.comap Prod.fst
theorem cmpE_neg{x y:Int×Int}:cmpE x y<0↔x.1<y.1:=cmpI_neg
theorem cmpE_le{x y:Int×Int}:cmpE x y≤0↔x.1≤y.1:=by unfold cmpE cmpI;split<;>first|omega|(split<;>omega)
def dedup:List (Int×Int)→List (Int×Int)
 |[]=>[]
 |[x]=>[x]
 |x::y::r=>if y.1≠x.1 then x::dedup (y::r)else dedup (y::r)
def ofT(l:List (Int×Int)):List (Int×Int):=l.foldl (fun t e=>putT t e.1 e.2) []
theorem dedup_two(a b:Int×Int)(r:List (Int×Int)):dedup (a::b::r)=if b.1≠a.1 then a::dedup (b::r)else dedup (b::r):=by
 conv=>lhs;unfold dedup
theorem dedup_head:∀(r:List (Int×Int)) (y:Int×Int),∃z s,dedup (y::r)=z::s∧z.1=y.1
 |[],y=>⟨y,[],rfl,rfl⟩
 | b ::r,y=>by
   unfold dedup
   by_cases h:b.1≠y.1
   ·rw[if_pos h];exact⟨_,_,rfl,rfl⟩
   · rw[if_neg h]
     obtain⟨z,s,h1,h2⟩:=dedup_head r b
     exact⟨z,s,h1,by rw[h2];exact Classical.not_not.1 h⟩
theorem dedup_front{x:Int×Int}{q:List (Int×Int)}(hq:∀y∈q,x.1<y.1):dedup (x::q)=x::dedup q:=by
 cases q with
 |nil=>rfl
 | cons y r=>
   have:=hq y (List.mem_cons_self ..)
   conv=>lhs;unfold dedup
   rw[if_pos om]
theorem put_front{x:Int×Int}{q:List (Int×Int)}(hq:∀y∈q,x.1<y.1):putT (dedup q) x.1 x.2=x::dedup q:=by
 cases q with
 |nil=>rfl
 | cons y r=>
   obtain⟨z,s,h1,h2⟩:=dedup_head r y
   have:=hq y (List.mem_cons_self ..)
   rw[h1,putT,if_neg om,if_neg om]
theorem dedup_ins{x:Int×Int}{q:List (Int×Int)}(hq:∀y∈q,x.1<y.1):∀p:List (Int×Int),p.Pairwise (fun a b=>a.1≤b.1)→(∀y∈p,y.1≤x.1)→dedup (p++x::q)=putT (dedup (p++q)) x.1 x.2
 |[],_,_=>by rw[List.nil_append,List.nil_append,dedup_front hq,put_front hq]
 | [a],_,hp=>by
   have ha:=hp a (List.mem_cons_self ..)
   have hqa:∀y∈q,a.1<y.1:=fun y hy=>by have:=hq y hy;omega
   show dedup (a::x::q)=putT (dedup (a::q)) x.1 x.2
   rw[dedup_front hqa]
   conv=>lhs;unfold dedup
   by_cases h:x.1=a.1
   ·rw[if_neg om,dedup_front hq,putT,if_neg om,if_pos h.symm]
   ·rw[if_pos h,dedup_front hq,putT,if_pos om,put_front hq]
 | a ::b::p,hs,hp=>by
   obtain⟨h1,h2⟩:=List.pairwise_cons.1 hs
   have hab:=h1 b (List.mem_cons_self ..)
   have hbx:=hp b (List.mem_cons_of_mem _ (List.mem_cons_self ..))
   have ih:=dedup_ins hq (b::p) h2 (fun y hy=>hp y (List.mem_cons_of_mem _ hy))
   show dedup (a::b::(p++x::q))=putT (dedup (a::b::(p++q))) x.1 x.2
   have ih:dedup (b::(p++x::q))=putT (dedup (b::(p++q))) x.1 x.2:=ih
   by_cases h:b.1=a.1
   · have e1:dedup (a::b::(p++x::q))=dedup (b::(p++x::q)):=by rw[dedup_two,if_neg om]
     have e2:dedup (a::b::(p++q))=dedup (b::(p++q)):=by rw[dedup_two,if_neg om]
     rw[e1,e2,ih]
   · have e1:dedup (a::b::(p++x::q))=a::dedup (b::(p++x::q)):=by rw[dedup_two,if_pos h]
     have e2:dedup (a::b::(p++q))=a::dedup (b::(p++q)):=by rw[dedup_two,if_pos h]
     rw[e1,e2,ih,putT,if_pos om]
theorem split_at(x:Int×Int):∀S:List (Int×Int),S.Pairwise (fun a b=>a.1≤b.1)→∃p q,S=p++q∧(∀y∈p,y.1≤x.1)∧(∀y∈q,x.1<y.1)
 |[],_=>⟨[],[],rfl,by simp,by simp⟩
 | a ::S,hs=>by
   obtain⟨h1,h2⟩:=List.pairwise_cons.1 hs
   by_cases h:a.1≤x.1
   · obtain⟨p,q,e,hp,hq⟩:=split_at x S h2
     exact⟨a::p,q,by rw[e];rfl,fun y hy=>(List.mem_cons.1 hy).elim (fun e=>by rw[e];exact h) (hp y),hq⟩
   · refine⟨[],a::S,rfl,by simp,fun y hy=>?_⟩
     rcases List.mem_cons.1 hy with rfl|hy
     ·omega
     ·have:=h1 y hy;omega
theorem dedup_step{x:Int×Int}{S:List (Int×Int)}(hs:S.Pairwise (fun a b=>a.1≤b.1)):dedup (insR cmpE x S)=putT (dedup S) x.1 x.2:=by
 obtain⟨p,q,rfl,hp,hq⟩:=split_at x S hs
 rw[insR_split (fun y hy=>cmpE_neg.2 (hq y hy)) (fun y hy=>fun h=>by have:=hp y (List.mem_of_getLast? hy);have:=cmpE_neg.1 h;omega)]
 exact dedup_ins hq p (List.pairwise_append.1 hs).1 hp
theorem sorted_step{x:Int×Int}{S:List (Int×Int)}(hs:S.Pairwise (fun a b=>a.1≤b.1)):(insR cmpE x S).Pairwise (fun a b=>a.1≤b.1):=by
 have h1:S.reverse.Pairwise (fun a b=>cmpE b a≤0):=List.pairwise_reverse.2 (hs.imp fun h=>cmpE_le.2 h)
 have h2:=insB_sorted cmp_cmpE x h1
 unfold insR
 exact(List.pairwise_reverse.2 h2).imp fun h=>cmpE_le.1 h
theorem dedup_of(l:List (Int×Int)):dedup (isort cmpE l)=ofT l:=by
 suffices ∀(l S:List (Int×Int)),S.Pairwise (fun a b=>a.1≤b.1)→dedup (l.foldl (fun S x=>insR cmpE x S) S)=l.foldl (fun t e=>putT t e.1 e.2) (dedup S)from this l [] List.Pairwise.nil
 intro l
 induction l with
 |nil=>intro S _;rfl
 |cons x l ih=>intro S hS;rw[List.foldl_cons,List.foldl_cons,ih _ (sorted_step hS),dedup_step hS]
abbrev Asc(t:List (Int×Int)):Prop:=t.Pairwise (fun a b=>a.1<b.1)
theorem put_mem{t:List (Int×Int)}{k v:Int}:∀y∈putT t k v,y.1=k∨y∈t:=by
 induction t with
 |nil=>intro y hy;simp[putT]at hy;exact .inl (by rw[hy])
 | cons e r ih=>
   intro y hy
   rw[putT]at hy
   by_cases h1:e.1<k
   · rw[if_pos h1]at hy
     rcases List.mem_cons.1 hy with rfl|hy
     ·exact .inr (List.mem_cons_self ..)
     ·exact(ih y hy).imp id (List.mem_cons_of_mem _)
   · rw[if_neg h1]at hy
     by_cases h2:e.1=k
     · rw[if_pos h2]at hy
       rcases List.mem_cons.1 hy with rfl|hy
       ·exact .inl rfl
       ·exact .inr (List.mem_cons_of_mem _ hy)
     · rw[if_neg h2]at hy
       rcases List.mem_cons.1 hy with rfl|hy
       ·exact .inl rfl
       ·exact .inr hy
theorem put_asc{t:List (Int×Int)}{k v:Int}(h:Asc t):Asc (putT t k v):=by
 induction t with
 |nil=>simp[putT]
 | cons e r ih=>
   obtain⟨h1,h2⟩:=List.pairwise_cons.1 h
   rw[putT]
   by_cases c1:e.1<k
   · rw[if_pos c1]
     refine List.pairwise_cons.2 ⟨fun y hy=>?_,ih h2⟩
     rcases put_mem y hy with h3|h3
     ·omega
     ·exact h1 y h3
   · rw[if_neg c1]
     by_cases c2:e.1=k
     · rw[if_pos c2]
       exact List.pairwise_cons.2 ⟨fun y hy=>by have:=h1 y hy;show k<y.1;omega,h2⟩
     · rw[if_neg c2]
       refine List.pairwise_cons.2 ⟨fun y hy=>?_,h⟩
       rcases List.mem_cons.1 hy with rfl|hy
       ·show k<y.1;omega
       ·have:=h1 y hy;show k<y.1;omega
theorem del_above{t:List (Int×Int)}{k:Int}(h:∀y∈t,k<y.1):delT t k=t:=List.filter_eq_self.2 fun y hy=>decide_eq_true (by have:=h y hy;omega)
theorem pin_above{t:List (Int×Int)}{k v:Int}(h:∀y∈t,k<y.1):pin k v false t=(k,v)::t:=by
 cases t with
 |nil=>rfl
 |cons y r=>rw[pin,if_pos ⟨rfl,h y (List.mem_cons_self ..)⟩,pin_true]
theorem rput_eq{t:List (Int×Int)}{k v:Int}(h:Asc t):rputT t k v=putT t k v:=by
 induction t with
 |nil=>rfl
 | cons e r ih=>
   obtain⟨h1,h2⟩:=List.pairwise_cons.1 h
   rw[putT]
   unfold rputT
   by_cases c1:e.1<k
   · rw[if_pos c1,←ih h2]
     unfold rputT
     have:delT (e::r) k=e::delT r k:=List.filter_cons_of_pos (decide_eq_true om)
     rw[this,pin,if_neg (fun h=>by omega)]
   · rw [if_neg c1]
     by_cases c2:e.1=k
     · rw[if_pos c2]
       have h3:∀y∈r,k<y.1:=fun y hy=>by have:=h1 y hy;omega
       have:delT (e::r) k=delT r k:=List.filter_cons_of_neg (by simp[c2])
       rw[this,del_above h3,pin_above h3]
     · rw[if_neg c2]
       have h3:∀y∈e::r,k<y.1:=fun y hy=>by
        rcases List.mem_cons.1 hy with rfl|hy
        ·omega
        ·have:=h1 y hy;omega
       rw[del_above h3,pin_above h3]
theorem rof_eq(l:List (Int×Int)):rofT l=ofT l∧Asc (ofT l):=by
 suffices ∀(l t:List (Int×Int)),Asc t→l.foldl (fun t e=>rputT t e.1 e.2) t=l.foldl (fun t e=>putT t e.1 e.2) t∧Asc (l.foldl (fun t e=>putT t e.1 e.2) t)from this l [] List.Pairwise.nil
 intro l
 induction l with
 |nil=>intro t h;exact⟨rfl,h⟩
 |cons x l ih=>intro t h;rw[List.foldl_cons,List.foldl_cons,rput_eq h];exact ih _ (put_asc h)
theorem dedup_at{S:List (Int×Int)}{i:Nat}{x y:Int×Int}(hx:S[i]?=some x)(hy:S[i+1]?=some y):dedup (S.drop i)=if y.1≠x.1 then x::dedup (S.drop (i+1))else dedup (S.drop (i+1)):=by
 rw[dog hx,dog hy];rfl
theorem dedup_last{S:List (Int×Int)}{i:Nat}{x:Int×Int}(hx:S[i]?=some x)(hn:i+1=S.length):dedup (S.drop i)=[x]:=by
 rw[dog hx,List.drop_eq_nil_of_le om];rfl
open Go.RowKit Go.Flow Go.Mem Go.Sep
theorem nan81(a:Int):
    Dz 81 [.int .i64 a] [] (fun v _=>v= .bool false):=by
 refine Does.en func81 ntmps81 fun w0=>?_
 refine Jz 14 ?_
 refine Je1 results81 ?_
 simp
theorem cmp47(a b:Int):
    Dz 47 [.int .i64 a, .int .i64 b] [] (fun v _=>v= .int .i64 (cmpI a b)):=by
 refine Does.en func47 ntmps47 fun w0=>?_
 refine Jz 8 ?_
 refine Jvf (nan81 a) rfl (ocn _) ?_
 refine Jz 6 ?_
 refine Jvf (nan81 b) rfl (ocn _) ?_
 refine Jz 29 ?_
 refine Jcp rfl ?_ ?_<;>intro c16
 refine Jz 7 ?_
 refine Je1 results47 ?_
 unfold cmpI;rw[if_pos c16]
 refine Jz 10 ?_
 refine Jcp rfl ?_ ?_<;>intro c19
 refine Jz 7 ?_
 refine Je1 results47 ?_
 unfold cmpI;rw[if_neg c16,if_pos c19]
 refine Jz 8 ?_
 refine Je1 results47 ?_
 unfold cmpI;rw[if_neg c16,if_neg c19]
theorem of1_fn(x y:Int×Int):
    Dz 46 [.agg (encEn x).toArray, .agg (encEn y).toArray] [] (fun v _=>v= .int .i64 (cmpE x y)):=by
 refine Does.en func46 ntmps46 fun w0=>?_
 refine Js (To.g (Jbo fun b2=>?_))
 refine Jbo fun b3=>?_
 refine Jz 9 ?_
 refine Jvf (cmp47 x.1 y.1) rfl (ocn _) ?_
 refine Jz 4 ?_
 refine Je1 results46 ?_
 rfl
theorem insE_fn(A:OA)(cap:Nat)(l:List (Int×Int))(hl:l.length≤16):
    Dz 127 [vs A l cap, .int .i64 0,nv l.length, .func (.func 46) #[] #[]] [rows encEn 142 2 A cap l] (fun v Γ'=>v= .tuple #[]∧Γ'=[rows encEn 142 2 A cap (isort cmpE l)]):=by
 refine Does.en func127 ntmps127 fun w0=>?_
 refine Jz 3 ?_
 refine Jr (Rd.add64 rfl rfl rfl om) ?_
 refine Jz 4 ?_
 refine Jonly [0] rfl (Jas [rows encEn 142 2 A cap (isort cmpE (l.take 1)++l.drop 1)] (by rw[isort_one]<;>rfl) (JloopS (fun mz ρ Γ=>∃(i:Nat),ρ=[(0,vs A (isort cmpE (l.take i)++l.drop i) cap),(1, .int .i64 0),(2,nv l.length),(3, .func (.func 46) #[] #[]),(8,nv i)]∧Γ=[rows encEn 142 2 A cap (isort cmpE (l.take i)++l.drop i)]∧mz=l.length-i∧(1≤i∧(i≤l.length∨l.length=0))) (l.length-1) ⟨⟨1,rfl,rfl,rfl,om⟩,⟨(congrArg (fun n:Nat=>some (Value.slice A n cap)) (congrArg List.length (isort_one l).symm)),rfl,rfl,rfl,rfl,trivial⟩⟩ ?_))
 rintro mz _ _ ⟨i,rfl,rfl,rfl,hi⟩
 refine Jz 8 ?_
 refine Jcp rfl ?_ ?_<;>intro c14
 refine Jz 11 ?_
 obtain⟨x,hx⟩:=exg l i om
 have hlen:(isort cmpE (l.take i)).length=i:=by rw[isort_len,List.length_take];omega
 have hd0:=dog hx
 refine Jonly [0] rfl (Jas [rows encEn 142 2 A cap ((isort cmpE (l.take i))++x::([]++l.drop (i+1)))] (by rw[hd0];rfl) (JloopS (fun mz ρ Γ=>∃(p:List (Int×Int)) (q:List (Int×Int)),ρ=[(0,vs A (p++x::(q++l.drop (i+1))) cap),(1, .int .i64 0),(2,nv l.length),(3, .func (.func 46) #[] #[]),(8,nv i),(9,nv p.length)]∧Γ=[rows encEn 142 2 A cap (p++x::(q++l.drop (i+1)))]∧mz=p.length∧(isort cmpE (l.take i)=p++q)∧(∀z∈q,cmpE x z<0)) ((isort cmpE (l.take i)).length) ⟨⟨(isort cmpE (l.take i)),[],rfl,rfl,rfl,((List.append_nil _).symm),(fun z hz=>absurd hz List.not_mem_nil)⟩,⟨(congrArg (fun n:Nat=>some (Value.slice A n cap)) (congrArg (fun d=>(isort cmpE (l.take i)++d).length) hd0)),rfl,rfl,rfl,rfl,(congrArg (fun n:Nat=>some (Value.int .i64 (n:Int))) hlen.symm),trivial⟩⟩ ?_))
 rintro mz _ _ ⟨p,q,rfl,rfl,rfl,hpq,hq⟩
 have hln:(p++x::(q++l.drop (i+1))).length=l.length:=by
  have h1:=congrArg List.length hpq
  rw[isort_len,List.length_take,lap]at h1
  simp only[lap,lc1,List.length_drop];omega
 have hpi:p.length<l.length:=by rw[←hln];simp only[lap,lc1];omega
 refine Js (Js ?_)
 have hgx:(p++x::(q++l.drop (i+1)))[p.length]?=some x:=get_mid _ _ _
 refine Jfw [] [0,1,2,3,4,5,6,9,10,11,107,108,112,113,314,15,16] (ocn _) ?_
 refine Jz 3 ?_
 refine Fw.rdP rfl rfl rfl rfl (Rd.move rfl rfl) (fun g21=>?_) (fun g21=>?_)
 have hpp:0<p.length:=om
 obtain⟨p',y,hp⟩:=snoc_of_pos hpp
 have hgy:(p++x::(q++l.drop (i+1)))[p.length-1]?=some y:=by rw[hp];simp
 refine Jz 5 ?_
 refine Fw.f rfl (Rd.as (v':=nv (p.length-1)) (congrArg (Value.int .i64) om) (Rd.sub64 rfl rfl rfl om)) ?_
 refine Jz 4 ?_
 refine Fw.callQ rfl rfl rfl rfl (Ent.func (first:=[]) (captured:=[]) rfl rfl rfl (kc.h 46 rfl)) (of1_fn x y) rfl (ocn _) ?_
 refine Jz 4 ?_
 refine Jcp rfl ?_ ?_<;>intro c34
 have hxy:=c34
 refine Jz 4 ?_
 have hl2:((p++x::(q++l.drop (i+1))).set p.length y).length=l.length:=by rw[List.length_set];exact hln
 refine Jknow (p:=A=some ⟨blk A,ofs A,none⟩) (fun w hw=>rows_some encEn_ok (by decide) (l:=(p++x::(q++l.drop (i+1)))) (by rw[hln];omega) 0 rfl hw) (fun hA=>?_)
 refine Jfw [] [0,1,2,3,4,5,6,7,8,10,11,12,109,113,14,515,16,517] (ocn _) ?_
 refine Jz 4 ?_
 refine Fw.f rfl (Rd.as (v':=nv (p.length-1)) (congrArg (Value.int .i64) om) (Rd.sub64 rfl rfl rfl om)) ?_
 refine Jz 2 ?_
 refine Fw.f rfl (Rd.as (v':=nv (p.length-1)) (congrArg (Value.int .i64) om) (Rd.sub64 rfl rfl rfl om)) ?_
 refine Fw.f rfl (Rd.indexS (j:=(p.length-1)) hA rfl rfl rfl s52 (by rw[hln];omega)) ?_
 refine Jz 2 ?_
 refine Fw.f rfl (Rd.indexS (j:=p.length) hA rfl rfl rfl s52 (by rw[hln];omega)) ?_
 refine Jz 2 ?_
 refine Fw.f rfl (Rd.indexS (j:=p.length) hA rfl rfl rfl s52 (by rw[hln];omega)) ?_
 refine Fw.up rfl rfl rfl (Up.storeS (i:=0) (us:=encEn y) rfl rfl rfl r142 (encEn_ok.len _) rfl rfl (rows_takes encEn_ok (by decide) om)) (ocn _) ?_
 refine Fw.f rfl (Rd.indexS (j:=(p.length-1)) hA rfl rfl rfl s52 (by rw[hln];omega)) ?_
 refine Fw.up rfl rfl rfl (Up.storeS (i:=0) (us:=encEn x) rfl rfl rfl r142 (encEn_ok.len _) rfl rfl (rows_takes encEn_ok (by decide) om)) (ocn _) ?_
 refine Jz 5 ?_
 refine Jr (Rd.as (v':=nv (p.length-1)) (congrArg (Value.int .i64) om) (Rd.sub64 rfl rfl rfl om)) ?_
 refine Jz 3 ?_
 have hsw:=swap_set p' (q++l.drop (i+1)) x y
 have hpl:p.length-1=p'.length:=by rw[hp];simp
 refine Jsub [(0,vs A (p'++x::((y::q)++l.drop (i+1))) cap),(1, .int .i64 0),(2,nv l.length),(3, .func (.func 46) #[] #[]),(8,nv i),(9,nv p'.length)] ⟨(congrArg (fun n:Nat=>some (Value.slice A n cap)) (by rw[hp];simp)),rfl,rfl,rfl,rfl,(congrArg (fun n:Nat=>some (Value.int .i64 (n:Int))) hpl),trivial⟩ (Jonly [0] rfl (Jas [rows encEn 142 2 A cap (p'++x::((y::q)++l.drop (i+1)))] (by rw[hpl,hp];rw[hsw];rfl) ?_))
 refine Jag (p'.length) (by rw[hp];simp) ⟨p',(y::q),rfl,rfl,rfl,(by rw[hpq,hp];simp),(fun z hz=>by
  rcases List.mem_cons.1 hz with rfl|hz
  ·exact hxy
  ·exact hq z hz)⟩
 have hstop:p.length=0∨∀z,p.getLast?=some z→¬cmpE x z<0:= .inr (fun z hz=>by rw[hp]at hz;simp at hz;subst hz;exact c34)
 refine Jz 12 ?_
 have hlast:∀z,p.getLast?=some z→¬cmpE x z<0:=fun z hz=>by
  rcases hstop with h0|h0
  ·rw[List.eq_nil_of_length_eq_zero h0]at hz;simp at hz
  ·exact h0 z hz
 have hnext:(p++x::(q++l.drop (i+1)))=isort cmpE (l.take (i+1))++l.drop (i+1):=by rw[isort_next hx hpq hq hlast];simp
 refine Jonly [0] rfl (Jas [rows encEn 142 2 A cap (isort cmpE (l.take (i+1))++l.drop (i+1))] (by rw[hnext]<;>rfl) (To.agT ⟨⟨i+1,rfl,rfl,rfl,om⟩,⟨(congrArg (fun n:Nat=>some (Value.slice A n cap)) (congrArg List.length hnext)),rfl,rfl,rfl,rfl,trivial⟩⟩))
 have hstop:p.length=0∨∀z,p.getLast?=some z→¬cmpE x z<0:= .inl om
 refine Jz 28 ?_
 have hlast:∀z,p.getLast?=some z→¬cmpE x z<0:=fun z hz=>by
  rcases hstop with h0|h0
  ·rw[List.eq_nil_of_length_eq_zero h0]at hz;simp at hz
  ·exact h0 z hz
 have hnext:(p++x::(q++l.drop (i+1)))=isort cmpE (l.take (i+1))++l.drop (i+1):=by rw[isort_next hx hpq hq hlast];simp
 refine Jonly [0] rfl (Jas [rows encEn 142 2 A cap (isort cmpE (l.take (i+1))++l.drop (i+1))] (by rw[hnext]<;>rfl) (To.agT ⟨⟨i+1,rfl,rfl,rfl,om⟩,⟨(congrArg (fun n:Nat=>some (Value.slice A n cap)) (congrArg List.length hnext)),rfl,rfl,rfl,rfl,trivial⟩⟩))
 refine Jz 4 ?_
 refine Jend0 (.inr rfl) results127 ?_
 exact⟨rfl,by rw[show l.take i=l from List.take_of_length_le om,List.drop_eq_nil_of_le om,List.append_nil]⟩
theorem stab_fn(A:OA)(cap:Nat)(l:List (Int×Int))(hl:l.length≤16):
    Dz 80 [vs A l cap,nv l.length, .func (.func 46) #[] #[]] [rows encEn 142 2 A cap l] (fun v Γ'=>v= .tuple #[]∧Γ'=[rows encEn 142 2 A cap (isort cmpE l)]):=by
 refine Does.en func80 ntmps80 fun w0=>?_
 refine Jz 14 ?_
 refine JloopOnce (Jz 8 ?_)
 refine Jcp rfl ?_ ?_<;>intro c13
 exfalso;omega
 refine Jz 11 ?_
 refine Jcf [0] (insE_fn A cap l hl) ?_
 rintro _ _ ⟨rfl,rfl⟩
 refine Jz 3 ?_
 refine JloopOnce (Jz 8 ?_)
 refine Jcp rfl ?_ ?_<;>intro c30
 exfalso;omega
 refine Jz 4 ?_
 refine Jend0 (.inr rfl) results80 ?_
 exact⟨rfl,rfl⟩
theorem sst_fn(A:OA)(cap:Nat)(l:List (Int×Int))(hl:l.length≤16):
    Dz 45 [vs A l cap, .func (.func 46) #[] #[]] [rows encEn 142 2 A cap l] (fun v Γ'=>v= .tuple #[]∧Γ'=[rows encEn 142 2 A cap (isort cmpE l)]):=by
 refine Does.en func45 ntmps45 fun w0=>?_
 refine Jz 5 ?_
 refine Jcf [0] (stab_fn A cap l hl) ?_
 rintro _ _ ⟨rfl,rfl⟩
 refine To.n (Jend0 (.inr rfl) results45 ?_)
 exact⟨rfl,rfl⟩
theorem fill_step{l:List (Int×Int)}{i:Nat}{x:Int×Int}(hx:l[i]?=some x):(l.take i++List.replicate (l.length-i) ((0:Int),(0:Int))).set i x=l.take (i+1)++List.replicate (l.length-(i+1)) (0,0):=by
 have hi:i<l.length:=(List.getElem?_eq_some_iff.1 hx).1
 have h1:(l.take i).length=i:=by rw[List.length_take];omega
 rw[List.set_append_right _ _ om,h1,Nat.sub_self,show l.length-i=(l.length-(i+1))+1 from by omega,List.replicate_succ,List.set_cons_zero,take_of_get hx]
 simp
theorem at_drop{α:Type}{D S:List α}{i:Nat}(h:D.drop i=S.drop i)(k:Nat):D[i+k]?=S[i+k]?:=by
 have:=congrArg (fun l=>l[k]?) h
 simpa using this
theorem keep_step{α:Type}{D out:List α}{x:α}(h:D.take out.length=out)(hk:out.length<D.length):(D.set out.length x).take (out++[x]).length=out++[x]:=by
 have h2:(D.set out.length x)[out.length]?=some x:=List.getElem?_set_self hk
 rw[lap,lc1,ln0,Nat.zero_add,take_of_get h2,List.take_set_of_le (Nat.le_refl _),h]
theorem drop_step{α:Type}{D S:List α}{i k:Nat}{x:α}(h:D.drop i=S.drop i)(hk:k≤i):(D.set k x).drop (i+1)=S.drop (i+1):=by
 rw[List.drop_set_of_lt om,←List.drop_drop,h,List.drop_drop]
theorem drop_next{α:Type}{D S:List α}{i:Nat}(h:D.drop i=S.drop i):D.drop (i+1)=S.drop (i+1):=by
 rw[←List.drop_drop,h,List.drop_drop]
theorem tof_fn(A:OA)(ca:Nat)(l:List (Int×Int))(hl:l.length≤16):
    Dz 22 [vs A l ca] [ros encEn A l] (fun v Γ'=>∃B q,v= .agg #[.slice B (ofT l).length q]∧Γ'=[rows encEn 142 2 B q (ofT l)]):=by
 refine Does.en func22 ntmps22 fun w0=>?_
 refine Js (To.g (Jal fun b2=>?_))
 refine Jz 6 ?_
 refine Jmk rfl rfl rfl (Mk.makeRowsN (enc:=encEn) (z:=((0:Int),(0:Int))) (n:=l.length) rfl (by decide) rfl s52 rfl rfl om (by simp only[maxLen];omega)) ?_
 rintro _ _ ⟨b11,rfl,rfl⟩
 refine Jz 12 ?_
 refine Jonly [1,0,0] rfl (JloopS (fun mz ρ Γ=>∃(Ad:OA) (D:List (Int×Int)) (i:Nat),ρ=[(2,pv b2),(3,vs Ad D l.length),(12,vs A l ca),(13,nv l.length),(14,nv i)]∧Γ=[box b2 [.slice none 0 0] 54,rows encEn 142 2 Ad l.length D,ros encEn A l]∧mz=l.length-i∧(i≤l.length)∧(D=l.take i++List.replicate (l.length-i) (0,0))) (l.length-0) ⟨⟨(some ⟨b11,0,none⟩),(List.replicate l.length ((0:Int),(0:Int))),0,rfl,rfl,rfl,om,(by simp)⟩,sb⟩ ?_)
 rintro mz _ _ ⟨Ad,D,i,rfl,rfl,rfl,hi,hD⟩
 have hDl:D.length=l.length:=by rw[hD,lap,List.length_take,List.length_replicate];omega
 refine Jz 6 ?_
 refine Jcp rfl ?_ ?_<;>intro c15
 obtain⟨x,hx⟩:=exg l i om
 refine Jz 9 ?_
 refine Jal fun b5=>?_
 refine Jz 4 ?_
 obtain⟨y0,hy0⟩:=exg D i om
 refine Jz 3 ?_
 refine Jr (Rd.indexArr (j:=0) rfl (ArrTy.of (size:=1) underlying92 (by kernel_rfl)) rfl rfl (by decide)) ?_
 refine Jz 1 ?_
 refine Jr (Rd.indexArr (j:=1) rfl (ArrTy.of (size:=1) underlying92 (by kernel_rfl)) rfl rfl (by decide)) ?_
 refine Jz 1 ?_
 refine Jr (.bd [.int .i64 x.1, .int .i64 x.2]) ?_
 refine Jz 1 ?_
 refine To.u (Up.storeS (i:=2) (us:=encEn x) rfl rfl rfl r142 (encEn_ok.len _) rfl rfl (rows_takes encEn_ok (by decide) om)) ?_
 refine Jz 8 ?_
 refine Jonly [1,1,1] rfl (To.agT ⟨⟨Ad,(D.set i x),i+1,rfl,rfl,rfl,om,(by rw[hD,fill_step hx])⟩,⟨rfl,(congrArg (fun n:Nat=>some (Value.slice Ad n l.length)) List.length_set.symm),rfl,rfl,rfl,trivial⟩⟩)
 refine Jz 6 ?_
 obtain rfl:D=l:=by rw[hD,show i=l.length from by omega];simp
 refine Jsub [(2,pv b2),(3,vs Ad D D.length)] sb (Jz 2 ?_)
 refine Jcf [1] (sst_fn Ad D.length D hl) ?_
 rintro _ _ ⟨rfl,rfl⟩
 refine Jz 3 ?_
 refine Jonly [0,0] rfl ?_
 obtain⟨S,hS⟩:∃S,S=isort cmpE D:=⟨_,rfl⟩
 have hSl:S.length=D.length:=by rw[hS,isort_len]
 (try unfold vs);rw[←hS,←hSl]
 refine Jz 2 ?_
 refine Jr (Rd.sliceHi (hi:=0) rfl s52 rfl rfl om) ?_
 refine Jz 12 ?_
 refine Jonly [0,0] rfl (JloopS (fun mz ρ Γ=>∃(D2:List (Int×Int)) (o:List (Int×Int)) (i:Nat),ρ=[(2,pv b2),(3,vs Ad D2 S.length),(6,vs Ad o S.length),(32,vs Ad D2 S.length),(33,nv S.length),(34,nv i)]∧Γ=[rows encEn 142 2 Ad S.length D2,box b2 [.slice none 0 0] 54]∧mz=S.length-i∧(i≤S.length)∧(D2.length=S.length)∧(o.length≤i)∧(D2.take o.length=o)∧(D2.drop i=S.drop i)∧(dedup S=o++dedup (S.drop i))) (S.length-0) ⟨⟨S,([]:List (Int×Int)),0,rfl,rfl,rfl,om,rfl,(Nat.le_refl _),rfl,rfl,rfl⟩,sb⟩ ?_)
 rintro mz _ _ ⟨D2,o,i,rfl,rfl,rfl,hi,hl2,ho,hk,hd,hI⟩
 refine Jz 6 ?_
 refine Jcp rfl ?_ ?_<;>intro c35
 obtain⟨x,hx⟩:=exg D2 i om
 refine Jz 9 ?_
 refine Jal fun b8=>?_
 refine Jz 5 ?_
 have hxS:S[i]?=some x:=by have:=at_drop hd 0;rw[Nat.add_zero]at this;rw[←this];exact hx
 refine Jfw [] [0,1,2,3,4,5,6,7,8,12,109,10,111,113,14,15] (ocn _) ?_
 refine Jz 5 ?_
 refine Fw.rdP rfl rfl rfl rfl (Rd.move rfl rfl) (fun g44=>?_) (fun g44=>?_)
 refine Jz 16 ?_
 refine To.sn [.int .i64 x.1, .int .i64 x.2] fun b57=>?_
 refine Jge rfl rfl rfl (Ge.appendIn encEn_ok (by decide) (i:=2) (j:=0) (k:=o.length) (el:=x) rfl s52 rfl rfl rfl rfl rfl om) ?_
 rintro _ _ ⟨rfl,rfl⟩
 refine Jz 9 ?_
 refine Jonly [2,2] rfl (To.agT ⟨⟨(D2.set o.length x),(o++[x]),i+1,rfl,rfl,rfl,om,(by rw[List.length_set];exact hl2),(by rw[lap,lc1,ln0];omega),(keep_step hk om),(drop_step hd ho),(by rw[hI,dedup_last hxS om,List.drop_eq_nil_of_le (by omega:S.length≤i+1)];simp[dedup])⟩,⟨rfl,(congrArg (fun n:Nat=>some (Value.slice Ad n S.length)) List.length_set.symm),(congrArg (fun n:Nat=>some (Value.slice Ad n S.length)) (by simp)),(congrArg (fun n:Nat=>some (Value.slice Ad n S.length)) List.length_set.symm),rfl,rfl,trivial⟩⟩)
 obtain⟨y,hy⟩:∃z0,D2[i+1]?=some z0:=⟨D2[i+1]'om,gge _⟩
 have hyS:S[i+1]?=some y:=by rw[←at_drop hd 1];exact hy
 refine Jz 12 ?_
 refine Jcp rfl ?_ ?_<;>intro c54
 refine Jz 3 ?_
 refine To.sn [.int .i64 x.1, .int .i64 x.2] fun b57_2=>?_
 refine Jge rfl rfl rfl (Ge.appendIn encEn_ok (by decide) (i:=2) (j:=0) (k:=o.length) (el:=x) rfl s52 rfl rfl rfl rfl rfl om) ?_
 rintro _ _ ⟨rfl,rfl⟩
 refine Jz 9 ?_
 refine Jonly [2,2] rfl (To.agT ⟨⟨(D2.set o.length x),(o++[x]),i+1,rfl,rfl,rfl,om,(by rw[List.length_set];exact hl2),(by rw[lap,lc1,ln0];omega),(keep_step hk om),(drop_step hd ho),(by rw[hI,dedup_at hxS hyS,if_pos c54];simp)⟩,⟨rfl,(congrArg (fun n:Nat=>some (Value.slice Ad n S.length)) List.length_set.symm),(congrArg (fun n:Nat=>some (Value.slice Ad n S.length)) (by simp)),(congrArg (fun n:Nat=>some (Value.slice Ad n S.length)) List.length_set.symm),rfl,rfl,trivial⟩⟩)
 refine Jz 8 ?_
 refine Jonly [1,1] rfl (To.agT ⟨⟨D2,o,i+1,rfl,rfl,rfl,om,hl2,om,hk,(drop_next hd),(by rw[hI,dedup_at hxS hyS,if_neg c54])⟩,sb⟩)
 refine Jz 8 ?_
 refine Jr (.bd [vs Ad o S.length]) ?_
 refine Jz 4 ?_
 have hfin:o=ofT D:=by
  have:=hI
  rw[List.drop_eq_nil_of_le (by omega:S.length≤i)]at this
  rw[←dedup_of,←hS,this];first|done|simp[dedup]
 refine Jonly [0,0] rfl (Jshrink encEn_ok o.length om ?_)
 rw[hk]
 refine To.ec [0] results22 ?_
 exact⟨Ad,S.length,by rw[←hfin];first|done|rfl,by rw[←hfin]⟩
end Go.Proofs.YtlihklladkagpaaGreatDoor

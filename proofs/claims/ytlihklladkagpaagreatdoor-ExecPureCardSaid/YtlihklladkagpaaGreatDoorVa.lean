/- Own text. -/
import Derived.Test.YtlihklladkagpaaGreatDoorQe
import Derived.Test.YtlihklladkagpaaGreatDoorYa
set_option linter.unusedVariables false
set_option linter.unusedSimpArgs false
set_option maxHeartbeats 2000000
set_option maxRecDepth 100000
namespace Go.Proofs.YtlihklladkagpaaGreatDoor
open Go.Proofs.Tryz
open Go.RowKit Go.Flow Go.Mem Go.Sep Go.In
def zV:Vr:=⟨nE,0,0⟩
def zC:Cm:=⟨nE,none,0,[],none,0,[]⟩
def zH:Hd:=⟨nE,none,0,[],none,0,[]⟩
theorem find_hit{α:Type}{p:α→Bool}{l:List α}{k:Nat}{x:α}(h:l[k]?=some x)(hp:p x=true):(l.drop k).find? p=some x:=by
 obtain⟨hk,he⟩:=List.getElem?_eq_some_iff.1 h
 rw[List.drop_eq_getElem_cons hk,he,List.find?_cons_of_pos hp]
theorem find_go{α:Type}{p:α→Bool}{l:List α}{k:Nat}{x:α}(h:l[k]?=some x)(hp:¬p x=true):(l.drop k).find? p=(l.drop (k+1)).find? p:=by
 obtain⟨hk,he⟩:=List.getElem?_eq_some_iff.1 h
 rw[List.drop_eq_getElem_cons hk,he,List.find?_cons_of_neg hp]
theorem find_end{α:Type}{p:α→Bool}{l:List α}{k:Nat}(h:l.length≤k):(l.drop k).find? p=none:=by rw[List.drop_of_length_le h];rfl
theorem ix_hit{l:List ByteArray}{s:ByteArray}{k:Nat}(h:l[k]?=some s):ixF s k (l.drop k)=some k:=by
 obtain⟨hk,he⟩:=List.getElem?_eq_some_iff.1 h
 rw[List.drop_eq_getElem_cons hk,he,ixF,if_pos rfl]
theorem ix_go{l:List ByteArray}{s x:ByteArray}{k:Nat}(h:l[k]?=some x)(hp:x≠s):ixF s k (l.drop k)=ixF s (k+1) (l.drop (k+1)):=by
 obtain⟨hk,he⟩:=List.getElem?_eq_some_iff.1 h
 rw[List.drop_eq_getElem_cons hk,he,ixF,if_neg hp]
theorem ix_end{l:List ByteArray}{s:ByteArray}{k:Nat}(h:l.length≤k):ixF s k (l.drop k)=none:=by rw[List.drop_of_length_le h];rfl
theorem Rd.addZ{P:Program}{o:Oper}{ρ:Slots}{Γ:List Chunk}{x y:Operand}{t t':TypeId}{a b:ByteArray}(ho:o.op= .binOp .add t x y t')(hx:ev ρ x=some (.string a))(hy:ev ρ y=some (.string b))(hl:a.size+b.size≤140737488355328):Rd P o ρ Γ (.string (a++b)):=Rd.bin ho hx hy fun w=>by
 simp[eqGuard,binOp,Op.stringOp];omega
theorem oI_ge(o:Option Nat):decide (0≤oI o)=o.isSome:=by cases o<;>simp[oI]
theorem fvar_fn(A:OA)(q:Nat)(l:List Vr)(s:ByteArray)(o:Option Vr)(hl:l.length≤12)(ho:l.find? (fun x:Vr=>decide (x.name=s))=o):
    Dz 146 [vs A l q, .string s] [ros encVx A l] (fun v _=>v= .tuple #[.agg (encVx (o.getD zV)).toArray, .bool o.isSome]):=by
 refine Does.en func146 ntmps146 fun w0=>?_
 refine Js (To.g (Jal fun b4=>?_))
 refine Jz 12 ?_
 refine To.loG (fun u g mz ρ Γ=>∃(k:Nat),ρ=[u 4,u 1,u 8,u 9,(10,nv k)]∧Γ=[g 0,g 1]∧mz=l.length-k∧(k≤l.length)∧((l.drop k).find? (fun x:Vr=>decide (x.name=s))=o)) ⟨⟨0,rfl,rfl,rfl,om,ho⟩,sb⟩ ?_
 rintro mz _ _ ⟨k,rfl,rfl,rfl,hk,ho⟩
 refine Jz 6 ?_
 refine Jcp rfl ?_ ?_<;>intro c11
 obtain⟨y,hy⟩:=exg l k om
 refine Jz 8 ?_
 refine Jal fun b7=>?_
 refine Jz 8 ?_
 refine Jr (Rd.eqlZ rfl rfl rfl) ?_
 refine To.n (Jt (Jcp rfl (fun c17=>?_) (fun c17=>?_)))
 refine Jz 13 ?_
 refine JendCT [] rfl (.inl rfl) results146 rfl (i:=1) rfl r189 rfl rfl ?_
 rw[show o=some y from by rw[←ho];exact find_hit hy (by simpa using c17)];rfl
 refine Jz 8 ?_
 refine To.agP ⟨⟨k+1,rfl,rfl,rfl,om,(by rw[←find_go hy (by simpa using c17)];exact ho)⟩,sb⟩
 refine Jz 7 ?_
 refine Jr (.bd [.string bE, .int .u8 0, .int .i64 0]) ?_
 refine Jz 5 ?_
 refine JendCT [] rfl (.inl rfl) results146 rfl (i:=0) rfl r189 rfl rfl ?_
 rw[show o=none from by rw[←ho];exact find_end om];rfl
theorem fcomp_fn(A:OA)(q:Nat)(l:List Cm)(s:ByteArray)(o:Option Cm)(hl:l.length≤12)(ho:l.find? (fun x:Cm=>decide (x.name=s))=o):
    Dz 143 [vs A l q, .string s] [ros encC A l] (fun v _=>v= .tuple #[.agg (encC (o.getD zC)).toArray, .bool o.isSome]):=by
 refine Does.en func143 ntmps143 fun w0=>?_
 refine Js (To.g (Jal fun b4=>?_))
 refine Jz 12 ?_
 refine To.loG (fun u g mz ρ Γ=>∃(k:Nat),ρ=[u 4,u 1,u 8,u 9,(10,nv k)]∧Γ=[g 0,g 1]∧mz=l.length-k∧(k≤l.length)∧((l.drop k).find? (fun x:Cm=>decide (x.name=s))=o)) ⟨⟨0,rfl,rfl,rfl,om,ho⟩,sb⟩ ?_
 rintro mz _ _ ⟨k,rfl,rfl,rfl,hk,ho⟩
 refine Jz 6 ?_
 refine Jcp rfl ?_ ?_<;>intro c11
 obtain⟨y,hy⟩:=exg l k om
 refine Jz 8 ?_
 refine Jal fun b7=>?_
 refine Jz 8 ?_
 refine Jr (Rd.eqlZ rfl rfl rfl) ?_
 refine To.n (Jt (Jcp rfl (fun c17=>?_) (fun c17=>?_)))
 refine Jz 13 ?_
 refine JendCT [] rfl (.inl rfl) results143 rfl (i:=1) rfl r175 rfl rfl ?_
 rw[show o=some y from by rw[←ho];exact find_hit hy (by simpa using c17)];rfl
 refine Jz 8 ?_
 refine To.agP ⟨⟨k+1,rfl,rfl,rfl,om,(by rw[←find_go hy (by simpa using c17)];exact ho)⟩,sb⟩
 refine Jz 7 ?_
 refine Jr (.bd [.string bE, .slice none 0 0, .slice none 0 0]) ?_
 refine Jz 5 ?_
 refine JendCT [] rfl (.inl rfl) results143 rfl (i:=0) rfl r175 rfl rfl ?_
 rw[show o=none from by rw[←ho];exact find_end om];rfl
def fdH(l:List Vs)(s:ByteArray):Option Hd:=(l.flatMap Vs.l).find? (fun x:Hd=>decide (x.name=s))
theorem fdH_cons(v:Vs)(r:List Vs)(s:ByteArray):fdH (v::r) s=(v.l.find? (fun x:Hd=>decide (x.name=s))).or (fdH r s):=by
 unfold fdH;rw[List.flatMap_cons,List.find?_append]
theorem fdH_go{l:List Vs}{k:Nat}{v:Vs}{s:ByteArray}(h:l[k]?=some v):fdH (l.drop k) s=(v.l.find? (fun x:Hd=>decide (x.name=s))).or (fdH (l.drop (k+1)) s):=by
 obtain⟨hk,he⟩:=List.getElem?_eq_some_iff.1 h
 rw[List.drop_eq_getElem_cons hk,he,fdH_cons]
theorem fdH_end{l:List Vs}{k:Nat}{s:ByteArray}(h:l.length≤k):fdH (l.drop k) s=none:=by rw[List.drop_of_length_le h];rfl
theorem Vs.kidsL_at{l:List Vs}{k:Encs}{v:Vs}{i:Nat}(h:l[i]?=some v):ros encH v.A v.l∈l.flatMap (Vs.kids k):=List.mem_flatMap.2 ⟨v,mog h,List.mem_cons_self ..⟩
theorem fhand_fn(A:OA)(q:Nat)(l:List Vs)(s:ByteArray)(o:Option Hd)(hl:l.length≤12)(hl3:∀v∈l,v.l.length≤3)(ho:fdH l s=o):
    Dz 148 [vs A l q, .string s] [ros encVs A l,all (l.flatMap (Vs.kids eX))] (fun v Γ'=>v= .tuple #[.agg (encH (o.getD zH)).toArray, .bool o.isSome]∧Γ'=[]):=by
 refine Does.en func148 ntmps148 fun w0=>?_
 refine Js (To.g (Jal fun b4=>?_))
 refine Jz 12 ?_
 refine To.loG (fun u g mz ρ Γ=>∃(k:Nat),ρ=[u 4,u 1,u 10,u 11,(12,nv k)]∧Γ=[g 0,g 1,g 2]∧mz=l.length-k∧(k≤l.length)∧(fdH (l.drop k) s=o)) ⟨⟨0,rfl,rfl,rfl,om,ho⟩,sb⟩ ?_
 rintro mz _ _ ⟨k,rfl,rfl,rfl,hk,ho⟩
 refine Jz 6 ?_
 refine Jcp rfl ?_ ?_<;>intro c13
 obtain⟨v,hv⟩:=exg l k om
 have hvl:=hl3 v (mog hv)
 refine Jz 8 ?_
 refine Jal fun b7=>?_
 refine Jz 4 ?_
 refine To.one 3 rfl (ros encH v.A v.l) rfl (Vs.kidsL_at hv) (Jz 8 ?_)
 refine To.loP (fun u g mz ρ Γ=>∃(j:Nat),ρ=[u 4,u 1,u 10,u 11,u 12,u 17,u 18,(19,nv j)]∧Γ=[g 2,g 3,g 4,g 0]∧mz=v.l.length-j∧(j≤v.l.length)∧((v.l.drop j).find? (fun x:Hd=>decide (x.name=s))=v.l.find? (fun x:Hd=>decide (x.name=s)))) ⟨⟨0,rfl,rfl,rfl,om,rfl⟩,sb⟩ ?_
 rintro mz _ _ ⟨j,rfl,rfl,rfl,hj,hj0⟩
 refine Jz 6 ?_
 refine Jcp rfl ?_ ?_<;>intro c20
 obtain⟨y,hy⟩:=exg v.l j om
 refine Jz 8 ?_
 refine Jal fun b9=>?_
 refine Jz 8 ?_
 refine Jr (Rd.eqlZ rfl rfl rfl) ?_
 refine To.n (Jt (Jcp rfl (fun c26=>?_) (fun c26=>?_)))
 refine Jz 17 ?_
 refine JendCT [] rfl (.inl rfl) results148 rfl (i:=1) rfl r196 rfl rfl ?_
 rw[show o=some y from by rw[←ho,fdH_go hv,←hj0,find_hit hy (by simpa using c26)];rfl];exact⟨rfl,rfl⟩
 refine Jz 8 ?_
 refine To.agP ⟨⟨j+1,rfl,rfl,rfl,om,(by rw[←find_go hy (by simpa using c26)];exact hj0)⟩,sb⟩
 refine Jz 11 ?_
 refine To.agP ⟨⟨k+1,rfl,rfl,rfl,om,(by rw[fdH_go hv,show v.l.find? (fun x:Hd=>decide (x.name=s))=none from by rw[←hj0];exact find_end om]at ho;exact ho)⟩,sb⟩
 refine Jz 7 ?_
 refine Jr (.bd [.string bE, .slice none 0 0, .slice none 0 0]) ?_
 refine Jz 5 ?_
 refine JendCT [] rfl (.inl rfl) results148 rfl (i:=0) rfl r196 rfl rfl ?_
 rw[show o=none from by rw[←ho];exact fdH_end om];exact⟨rfl,rfl⟩
theorem fhand_some(A:OA)(q:Nat)(l:List Vs)(s:ByteArray)(h:Hd)(hl:l.length≤12)(hl3:∀v∈l,v.l.length≤3)(ho:fdH l s=some h):Dz 148 [vs A l q, .string s] [ros encVs A l,all (l.flatMap (Vs.kids eX))] (fun v Γ'=>v= .tuple #[.agg (encH h).toArray, .bool true]∧Γ'=[]):=fhand_fn A q l s (some h) hl hl3 ho
theorem fcomp_some(A:OA)(q:Nat)(l:List Cm)(s:ByteArray)(c:Cm)(hl:l.length≤12)(ho:l.find? (fun x:Cm=>decide (x.name=s))=some c):Dz 143 [vs A l q, .string s] [ros encC A l] (fun v _=>v= .tuple #[.agg (encC c).toArray, .bool true]):=fcomp_fn A q l s (some c) hl ho
theorem index_fn(A:OA)(q:Nat)(l:List ByteArray)(s:ByteArray)(o:Option Nat)(hl:l.length≤12)(ho:ixF s 0 l=o):
    Dz 91 [vs A l q, .string s] [ros encZ A l] (fun v _=>v= .int .i64 (oI o)):=by
 refine Does.en func91 ntmps91 fun w0=>?_
 refine Jz 14 ?_
 refine To.loG (fun u g mz ρ Γ=>∃(k:Nat),ρ=[u 0,u 1,u 6,u 7,(8,nv k)]∧Γ=[g 0]∧mz=l.length-k∧(k≤l.length)∧(ixF s k (l.drop k)=o)) ⟨⟨0,rfl,rfl,rfl,om,ho⟩,sb⟩ ?_
 rintro mz _ _ ⟨k,rfl,rfl,rfl,hk,ho⟩
 refine Jz 6 ?_
 refine Jcp rfl ?_ ?_<;>intro k9
 obtain⟨y,hy⟩:=exg l k om
 refine Jz 17 ?_
 refine Jr (Rd.eqlZ rfl rfl rfl) ?_
 refine To.n (Jt (Jcp rfl (fun k16=>?_) (fun k16=>?_)))
 refine Jz 12 ?_
 refine Je1 results91 ?_
 rw[show o=some k from by rw[←ho];exact ix_hit (by rw[k16];exact hy)];rfl
 refine Jz 8 ?_
 refine To.agT ⟨⟨k+1,rfl,rfl,rfl,om,(by rw[←ix_go hy (fun e=>k16 e.symm)];exact ho)⟩,sb⟩
 refine Jz 11 ?_
 refine Je1 results91 ?_
 rw[show o=none from by rw[←ho];exact ix_end om];rfl
theorem contains_fn(A:OA)(q:Nat)(l:List ByteArray)(s:ByteArray)(o:Option Nat)(hl:l.length≤12)(ho:ixF s 0 l=o):
    Dz 90 [vs A l q, .string s] [ros encZ A l] (fun v _=>v= .bool o.isSome):=by
 refine Does.en func90 ntmps90 fun w0=>?_
 refine Jz 9 ?_
 refine Jvf (index_fn A q l s o hl ho) rfl (ocs (oca 0 rfl) (ocn _)) ?_
 refine Jr (Rd.as (v':= .bool o.isSome) (congrArg Value.bool (oI_ge o)) (Rd.geq rfl rfl rfl)) ?_
 refine Jz 4 ?_
 refine Je1 results90 ?_
 rfl
theorem flag1_fn(b:Nat)(s:ByteArray)(x:Fg):
    Dz 179 [.agg (encFg x).toArray,pv b] [ro (some ⟨b,0,none⟩) [.string s]] (fun v _=>v= .bool (decide (x.name=s))):=by
 refine Does.en func179 ntmps179 fun w0=>?_
 refine Js (To.g (Jbo fun b2=>?_))
 refine Jz 7 ?_
 refine Jr (Rd.ld (i:=1) rfl rfl c9 rfl (ro_gives (A:=some ⟨b,0,none⟩) (o:=0) (k:=1) rfl)) ?_
 refine Jr (Rd.eqlZ rfl rfl rfl) ?_
 refine Jz 4 ?_
 refine Je1 results179 ?_
 rfl
theorem indexF_fn(b:Nat)(A:OA)(q:Nat)(l:List Fg)(s:ByteArray)(o:Option Nat)(hl:l.length≤12)(ho:ixF s 0 (l.map Fg.name)=o):
    Dz 199 [vs A l q, .func (.func 179) #[] #[pv b]] [ros encFg A l,ro (some ⟨b,0,none⟩) [.string s]] (fun v _=>v= .int .i64 (oI o)):=by
 refine Does.en func199 ntmps199 fun w0=>?_
 refine Jz 14 ?_
 refine To.loG (fun u g mz ρ Γ=>∃(k:Nat),ρ=[u 0,u 1,u 6,u 7,(8,nv k)]∧Γ=[g 0,g 1]∧mz=l.length-k∧(k≤l.length)∧(ixF s k ((l.map Fg.name).drop k)=o)) ⟨⟨0,rfl,rfl,rfl,om,ho⟩,sb⟩ ?_
 rintro mz _ _ ⟨k,rfl,rfl,rfl,hk,ho⟩
 refine Jz 6 ?_
 refine Jcp rfl ?_ ?_<;>intro k9
 obtain⟨y,hy⟩:=exg l k om
 refine Jz 17 ?_
 refine JcV rfl rfl rfl (Ent.func (first:=[]) (captured:=[pv b]) rfl rfl rfl (kc.h 179 rfl)) (flag1_fn b s y) rfl (ocs (oca 1 rfl) (ocn _)) (To.n (Jt (Jcp rfl (fun k16=>?_) (fun k16=>?_))))
 refine Jz 12 ?_
 refine Je1 results199 ?_
 rw[show o=some k from by rw[←ho];exact ix_hit (by rw[List.getElem?_map,hy,←k16];rfl)];rfl
 refine Jz 8 ?_
 refine To.agT ⟨⟨k+1,rfl,rfl,rfl,om,(by rw[←ix_go (x:=y.name) (by rw[List.getElem?_map,hy];rfl) k16];exact ho)⟩,sb⟩
 refine Jz 11 ?_
 refine Je1 results199 ?_
 rw[show o=none from by rw[←ho];exact ix_end (by rw[List.length_map];omega)];rfl
theorem containsF_fn(b:Nat)(A:OA)(q:Nat)(l:List Fg)(s:ByteArray)(o:Option Nat)(hl:l.length≤12)(ho:ixF s 0 (l.map Fg.name)=o):
    Dz 178 [vs A l q, .func (.func 179) #[] #[pv b]] [ros encFg A l,ro (some ⟨b,0,none⟩) [.string s]] (fun v _=>v= .bool o.isSome):=by
 refine Does.en func178 ntmps178 fun w0=>?_
 refine Jz 9 ?_
 refine Jvf (indexF_fn b A q l s o hl ho) rfl (ocs (oca 0 rfl) (ocs (oca 1 rfl) (ocn _))) ?_
 refine Jr (Rd.as (v':= .bool o.isSome) (congrArg Value.bool (oI_ge o)) (Rd.geq rfl rfl rfl)) ?_
 refine Jz 4 ?_
 refine Je1 results178 ?_
 rfl
theorem fflag_fn(A:OA)(q:Nat)(l:List Fg)(s:ByteArray)(o:Option Nat)(hl:l.length≤12)(ho:ixF s 0 (l.map Fg.name)=o):
    Dz 142 [vs A l q, .string s] [ros encFg A l] (fun v _=>v= .bool o.isSome):=by
 refine Does.en func142 ntmps142 fun w0=>?_
 refine Js (To.g (Jbo fun b3=>?_))
 refine Jz 4 ?_
 refine JlayBox (Jz 2 ?_)
 refine Jr (Rd.makeFunc rfl rfl rfl) ?_
 refine Jvf (containsF_fn b3 A q l s o hl ho) rfl (ocs (oca 1 rfl) (ocs (oca 0 rfl) (ocn _))) ?_
 refine Jz 4 ?_
 refine Je1 results142 ?_
 rfl
theorem report_fn(b:Nat)(F:Fl)(w n:ByteArray):
    Dz 86 [pv b, .int .i64 0, .string n] [box b (cF F [.string w, .string nE, .string nE, .int .i64 0]) 235] (fun v Γ'=>v= .bool true∧Γ'=[box b (cF F [.string w, .string nE, .string nE, .int .i64 0]) 235]):=by
 refine Does.en func86 ntmps86 fun w0=>?_
 refine Jz 35 ?_
 refine Je1 results86 ?_
 exact⟨rfl,rfl⟩
theorem at_fn(b:Nat)(F:Fl)(w n:ByteArray):
    Dz 140 [pv b, .string n] [box b (cF F [.string w, .string nE, .string nE, .int .i64 0]) 235] (fun v Γ'=>v= .bool true∧Γ'=[box b (cF F [.string n, .string nE, .string nE, .int .i64 0]) 235]):=by
 refine Does.en func140 ntmps140 fun w0=>?_
 refine Jz 26 ?_
 refine Je1 results140 ?_
 exact⟨rfl,rfl⟩
theorem unless_fn(b:Nat)(F:Fl)(w n:ByteArray)(e:Int):
    Dz 141 [pv b, .bool true, .int .i64 e, .string n] [box b (cF F [.string w, .string nE, .string nE, .int .i64 0]) 235] (fun v Γ'=>v= .bool true∧Γ'=[box b (cF F [.string w, .string nE, .string nE, .int .i64 0]) 235]):=by
 refine Does.en func141 ntmps141 fun w0=>?_
 refine Jz 21 ?_
 refine Jcf [0] (report_fn b F w n) ?_
 rintro _ _ ⟨rfl,rfl⟩
 refine Jz 4 ?_
 refine Je1 results141 ?_
 exact⟨rfl,rfl⟩
theorem links1_fn(b:Nat)(z x:Lk):
    Dz 144 [.agg (encLk x).toArray,pv b] [ro (some ⟨b,0,none⟩) [.string z.src, .string z.dst, .int .i64 z.lat]] (fun v _=>v= .bool (decide (x.src=z.src)&&decide (x.dst=z.dst))):=by
 refine Does.en func144 ntmps144 fun w0=>?_
 refine Js (To.g (Jbo fun b2=>?_))
 refine Jz 8 ?_
 refine Jr (Rd.ld (i:=1) rfl rfl c9 rfl (ro_gives (A:=some ⟨b,0,none⟩) (o:=0) (k:=1) rfl)) ?_
 refine Jr (Rd.eqlZ rfl rfl rfl) ?_
 refine JgP ?_ ?_<;>intro g9
 refine Jz 3 ?_
 refine Jr (Rd.ld (i:=1) rfl rfl c9 rfl (ro_gives (A:=some ⟨b,0,none⟩) (o:=1) (k:=1) rfl)) ?_
 refine Jr (Rd.eqlZ rfl rfl rfl) ?_
 refine Jz 5 ?_
 refine Je1 results144 ?_
 simp[*]
 refine Jz 10 ?_
 refine Je1 results144 ?_
 simp[*]
theorem indexL_fn(b:Nat)(z:Lk)(A:OA)(q:Nat)(l:List Lk)(hl:l.length≤12)(hn:∀y∈l,¬(y.src=z.src∧y.dst=z.dst)):
    Dz 180 [vs A l q, .func (.func 144) #[] #[pv b]] [ros encLk A l,ro (some ⟨b,0,none⟩) [.string z.src, .string z.dst, .int .i64 z.lat]] (fun v _=>v= .int .i64 (-1)):=by
 refine Does.en func180 ntmps180 fun w0=>?_
 refine Jz 14 ?_
 refine To.loG (fun s g mz ρ Γ=>∃(k:Nat),ρ=[s 0,s 1,s 6,s 7,(8,nv k)]∧Γ=[g 0,g 1]∧mz=l.length-k∧(k≤l.length)) ⟨⟨0,rfl,rfl,rfl,om⟩,sb⟩ ?_
 rintro mz _ _ ⟨k,rfl,rfl,rfl,hk⟩
 refine Jz 6 ?_
 refine Jcp rfl ?_ ?_<;>intro k9
 obtain⟨y,hy⟩:=exg l k om
 refine Jz 17 ?_
 refine JcV rfl rfl rfl (Ent.func (first:=[]) (captured:=[pv b]) rfl rfl rfl (kc.h 144 rfl)) (links1_fn b z y) rfl (ocs (oca 1 rfl) (ocn _)) (To.n (Jt (Jcond rfl (fun k16=>?_) (fun k16=>?_))))
 exact absurd (by simpa using k16) (hn y (mog hy))
 refine Jz 8 ?_
 refine To.agT ⟨⟨k+1,rfl,rfl,rfl,om⟩,sb⟩
 refine Jz 11 ?_
 refine Je1 results180 ?_
 rfl
theorem containsL_fn(b:Nat)(z:Lk)(A:OA)(q:Nat)(l:List Lk)(hl:l.length≤12)(hn:∀y∈l,¬(y.src=z.src∧y.dst=z.dst)):
    Dz 145 [vs A l q, .func (.func 144) #[] #[pv b]] [ros encLk A l,ro (some ⟨b,0,none⟩) [.string z.src, .string z.dst, .int .i64 z.lat]] (fun v _=>v= .bool false):=by
 refine Does.en func145 ntmps145 fun w0=>?_
 refine Jz 9 ?_
 refine Jvf (indexL_fn b z A q l hl hn) rfl (ocs (oca 0 rfl) (ocs (oca 1 rfl) (ocn _))) ?_
 refine Jz 5 ?_
 refine Je1 results145 ?_
 rfl
end Go.Proofs.YtlihklladkagpaaGreatDoor

/- Own text. -/
import Derived.Test.YtlihklladkagpaaGreatDoorXd
set_option linter.unusedVariables false
set_option linter.unusedSimpArgs false
set_option maxHeartbeats 2000000
set_option maxRecDepth 100000
namespace Go.Proofs.YtlihklladkagpaaGreatDoor
open Go.Proofs.Tryz
open Go.RowKit Go.Flow Go.Mem Go.Sep
theorem tfc_fn(x:Int×Int)(k:Int):
    Dz 209 [.agg (encEn x).toArray, .int .i64 k] [] (fun v _=>v= .int .i64 (cmpI x.1 k)):=by
 refine Does.en func209 ntmps209 fun w0=>?_
 refine Js (To.g (Jbo fun b2=>?_))
 refine Jz 8 ?_
 refine Jvf (cmp47 x.1 k) rfl (ocn _) ?_
 refine Jz 4 ?_
 refine Je1 results209 ?_
 rfl
theorem bsf_fn(A:OA)(ca:Nat)(l:List (Int×Int))(k:Int)(hl:l.length≤1000000)(ha:Asc l):
    Dz 208 [vs A l ca, .int .i64 k, .func (.func 209) #[] #[]] [ros encEn A l] (fun v _=>v= .tuple #[nv (lowN l k), .bool (getT l k).isSome]):=by
 refine Does.en func208 ntmps208 fun w0=>?_
 refine Jz 22 ?_
 refine Jonly [0] rfl (JloopS (fun mz ρ Γ=>∃(i:Nat) (j:Nat),ρ=[(0,vs A l ca),(1, .int .i64 k),(2, .func (.func 209) #[] #[]),(8,nv l.length),(9,nv i),(10,nv j)]∧Γ=[ros encEn A l]∧mz=j-i∧(i≤lowN l k∧lowN l k≤j∧j≤l.length)) (l.length-0) ⟨⟨0,l.length,rfl,rfl,rfl,⟨Nat.zero_le _,low_le _ _,Nat.le_refl _⟩⟩,sb⟩ ?_)
 rintro mz _ _ ⟨i,j,rfl,rfl,rfl,hij⟩
 refine Jz 8 ?_
 refine Jcp rfl ?_ ?_<;>intro c17
 refine Jz 7 ?_
 refine Jr (Rd.addN (a:=i) (b:=j) rfl rfl rfl om) ?_
 refine Jr (Rd.conv rfl rfl underlying3 underlying205 (wrapU om)) ?_
 refine Jr (Rd.shrK (a:=(i+j)) (j:=1) rfl rfl rfl (by simp only[IntKind.bits];omega)) ?_
 refine Jr (Rd.conv rfl rfl underlying205 underlying3 (IntWalk.i64_in _ om)) ?_
 refine Jz 4 ?_
 have hm1:i≤(i+j)/2^1∧(i+j)/2^1<j:=om
 obtain⟨x,hx⟩:∃z0,l[((i+j)/2^1)]?=some z0:=⟨l[((i+j)/2^1)]'om,gge _⟩
 have hcm:cmpI x.1 k<0↔(i+j)/2^1<lowN l k:=cmpI_neg.trans (low_iff ha hx)
 refine Jz 4 ?_
 refine Jr (Rd.ixo encEn_ok (i:=0) (j:=((i+j)/2^1)) rfl rfl rfl s52 rfl hx) ?_
 refine Jz 2 ?_
 refine JcV rfl rfl rfl (Ent.func (first:=[]) (captured:=[]) rfl rfl rfl (kc.h 209 rfl)) (tfc_fn x k) rfl (ocn _) (Jz 3 ?_)
 refine Jcp rfl ?_ ?_<;>intro c31
 refine Jz 7 ?_
 refine Jonly [0] rfl (JagS (j-(((i+j)/2^1)+1)) om ⟨⟨((i+j)/2^1)+1,j,rfl,rfl,rfl,om⟩,sb⟩)
 refine Jz 6 ?_
 refine Jonly [0] rfl (JagS (((i+j)/2^1)-i) om ⟨⟨i,((i+j)/2^1),rfl,rfl,rfl,om⟩,sb⟩)
 refine Jz 6 ?_
 obtain rfl:i=lowN l k:=om
 refine Jsub [(0,vs A l ca),(1, .int .i64 k),(2, .func (.func 209) #[] #[]),(8,nv l.length),(9,nv ((lowN l k)))] sb (Jz 5 ?_)
 refine JgP ?_ ?_<;>intro g39
 obtain⟨x,hx⟩:∃z0,l[(lowN l k)]?=some z0:=⟨l[(lowN l k)]'om,gge _⟩
 refine Jz 6 ?_
 refine JcV rfl rfl rfl (Ent.func (first:=[]) (captured:=[]) rfl rfl rfl (kc.h 209 rfl)) (tfc_fn x k) rfl (ocn _) (Jz 7 ?_)
 refine Jend2 (.inl rfl) results208 rfl rfl ?_
 show Value.tuple #[_,_]=Value.tuple #[_,_]
 rw[get_at ha hx]
 by_cases hk:x.1=k
 · have hc0:cmpI x.1 k=0:=cmpI_zero.2 hk
   rw[if_pos hk,hc0];rfl
 ·simp[hk,mt cmpI_zero.1 hk]
 refine Jz 14 ?_
 refine Jend2 (.inl rfl) results208 rfl rfl ?_
 show Value.tuple #[_,_]=Value.tuple #[_,_]
 rw[get_end ha om];rfl
theorem tfind_fn(A:OA)(ca:Nat)(l:List (Int×Int))(k:Int)(hl:l.length≤1000000)(ha:Asc l):
    Dz 188 [.agg #[vs A l ca], .int .i64 k] [ros encEn A l] (fun v _=>v= .tuple #[nv (lowN l k), .bool (getT l k).isSome]):=by
 refine Does.en func188 ntmps188 fun w0=>?_
 refine Js (To.g (Jbo fun b2=>?_))
 refine Jz 9 ?_
 refine Jvf (bsf_fn A ca l k hl ha) rfl (ocs (oca 1 rfl) (ocn _)) ?_
 refine Jz 7 ?_
 refine Jend2 (.inl rfl) results188 rfl rfl ?_
 rfl
theorem tget_fn(A:OA)(ca:Nat)(l:List (Int×Int))(k:Int)(hl:l.length≤1000000)(ha:Asc l):
    Dz 161 [.agg #[vs A l ca], .int .i64 k] [ros encEn A l] (fun v _=>v= .tuple #[.int .i64 ((getT l k).getD 0), .bool (getT l k).isSome]):=by
 refine Does.en func161 ntmps161 fun w0=>?_
 refine Js (To.g (Jbo fun b2=>?_))
 refine Jz 8 ?_
 refine Jvf (tfind_fn A ca l k hl ha) rfl (ocs (oca 1 rfl) (ocn _)) ?_
 refine Jz 14 ?_
 refine Jcond rfl ?_ ?_<;>intro c15
 refine Jz 8 ?_
 refine Jend2 (.inl rfl) results161 rfl rfl ?_
 have hn:getT l k=none:=by rw[←Option.not_isSome_iff_eq_none];simpa using c15
 show Value.tuple #[_,_]=Value.tuple #[_,_]
 rw[hn];rfl
 refine Jz 3 ?_
 have his:(getT l k).isSome=true:=by simpa using c15
 obtain⟨y,hy,hyk,hg⟩:=get_is ha his
 refine Jz 12 ?_
 refine Jend2 (.inl rfl) results161 rfl rfl ?_
 show Value.tuple #[_,_]=Value.tuple #[_,_]
 rw[hg];rfl
theorem tlen_fn(A:OA)(n ca:Nat):
    Dz 18 [.agg #[.slice A n ca]] [] (fun v _=>v=nv n):=by
 refine Does.en func18 ntmps18 fun w0=>?_
 refine Js (To.g (Jbo fun b1=>?_))
 refine Jz 12 ?_
 refine Je1 results18 ?_
 rfl
theorem growE_fn(n:Nat)(hn:n≤1000000):
    Dz 210 [.slice none 0 0,nv n] [] (fun v Γ'=>∃A q,v= .slice A 0 q∧n≤q∧Γ'=[rows encEn 142 2 A q []]):=by
 refine Does.en func210 ntmps210 fun w0=>?_
 refine Jz 12 ?_
 refine Jcp rfl ?_ ?_<;>intro c6
 exfalso;omega
 refine Jz 7 ?_
 refine Jr (Rd.cap rfl underlying52 rfl) ?_
 refine Jz 2 ?_
 refine Jr (Rd.as (v':= .int .i64 (0)) rfl (Rd.sub64 (m:=0) (n:=0) rfl rfl rfl (by decide))) ?_
 refine Jr (Rd.as (v':=nv n) (congrArg (Value.int .i64) om) (Rd.sub64 rfl rfl rfl om)) ?_
 refine Jz 9 ?_
 refine Jcp rfl ?_ ?_<;>intro c16
 refine Jz 3 ?_
 refine Jr (Rd.cap rfl underlying52 rfl) ?_
 refine Jr (Rd.sliceHi (hi:=0) rfl s52 rfl rfl om) ?_
 refine Jm ?_
 refine Jmk rfl rfl rfl (Mk.appendZeros (enc:=encEn) (n:=n) rfl s52 underlying3 rfl rfl om om om) ?_
 rintro _ _ ⟨A22,q22,⟨rfl,hq22⟩,rfl⟩
 refine Jz 2 ?_
 refine Jr (Rd.sliceHi (hi:=0) rfl s52 rfl rfl om) ?_
 refine Jz 10 ?_
 refine Jonly [0] rfl (Je1 results210 ?_)
 exact⟨_,_,rfl,by omega,rfl⟩
 refine Jz 9 ?_
 obtain rfl:n=0:=om
 refine JnilRow (encEn) 142 2 (Jonly [0] rfl (Je1 results210 ?_))
 exact⟨_,_,rfl,by omega,rfl⟩
def cat(l:List Tb):List (Int×Int):=l.flatMap Tb.l
theorem cat_succ{l:List Tb}{i:Nat}{x:Tb}(hx:l[i]?=some x):cat (l.take (i+1))=cat (l.take i)++x.l:=by rw[take_of_get hx];simp[cat]
theorem cat_le(l:List Tb)(i:Nat):(cat (l.take i)).length≤(cat l).length:=by
 have e:cat l=cat (l.take i)++cat (l.drop i):=by rw[cat,cat,cat,←List.flatMap_append,List.take_append_drop]
 rw[e,lap];omega
theorem concat_fn(As:OA)(cp:Nat)(ps:List Tb)(hpl:ps.length≤1000000)(hcl0:(cat ps).length≤1000000):
    Dz 189 [vs As ps cp] [ros Tb.cells As ps,rosS encEn (ps.map Tb.ar)] (fun v Γ'=>∃B q,v= .slice B (cat ps).length q∧Γ'=[rows encEn 142 2 B q (cat ps)]):=by
 refine Does.en func189 ntmps189 fun w0=>?_
 refine Jz 19 ?_
 refine Jonly [0,0] rfl (JloopS (fun mz ρ Γ=>∃(i:Nat) (n:Nat),ρ=[(0,vs As ps cp),(3,nv n),(9,vs As ps cp),(10,nv ps.length),(11,nv i)]∧Γ=[ros Tb.cells As ps,rosS encEn (ps.map Tb.ar)]∧mz=ps.length-i∧(i≤ps.length)∧(n=(cat (ps.take i)).length)) (ps.length-0) ⟨⟨0,0,rfl,rfl,rfl,(Nat.zero_le _),rfl⟩,sb⟩ ?_)
 rintro mz _ _ ⟨i,n,rfl,rfl,rfl,hi,hn⟩
 refine Jz 6 ?_
 refine Jcp rfl ?_ ?_<;>intro c12
 obtain⟨y,hy⟩:=exg ps i om
 refine Jz 12 ?_
 have hcs:=cat_succ hy
 have hcl:=cat_le ps (i+1)
 have hcl2:(cat (ps.take (i+1))).length=(cat (ps.take i)).length+y.l.length:=by rw[hcs,lap]
 refine Jz 4 ?_
 refine Jr (Rd.addN (a:=n) (b:=y.l.length) rfl rfl rfl om) ?_
 refine Jz 9 ?_
 refine Jcp rfl ?_ ?_<;>intro c20
 exfalso;omega
 refine Jz 8 ?_
 refine Jonly [0,0] rfl (JagS (ps.length-(i+1)) om ⟨⟨i+1,(n+y.l.length),rfl,rfl,rfl,om,om⟩,sb⟩)
 refine Jz 6 ?_
 obtain rfl:n=(cat ps).length:=by rw[hn,List.take_of_length_le om]
 refine Jsub [(0,vs As ps cp),(3,nv ((cat ps).length))] sb (Jz 2 ?_)
 refine Jqf (growE_fn (cat ps).length om) rfl (ocn _) ?_
 rintro _ _ ⟨Ag,qg,rfl,hqg,rfl⟩
 refine⟨rfl,?_⟩
 refine Jz 12 ?_
 refine Jonly [1,1,0] rfl (JloopS (fun mz ρ Γ=>∃(i:Nat) (Ao:OA) (qo:Nat) (O:List (Int×Int)),ρ=[(6,vs Ao O qo),(25,vs As ps cp),(26,nv ps.length),(27,nv i)]∧Γ=[ros Tb.cells As ps,rosS encEn (ps.map Tb.ar),rows encEn 142 2 Ao qo O]∧mz=ps.length-i∧(i≤ps.length)∧(O=cat (ps.take i))) (ps.length-0) ⟨⟨0,Ag,qg,([]:List (Int×Int)),rfl,rfl,rfl,(Nat.zero_le _),rfl⟩,sb⟩ ?_)
 rintro mz _ _ ⟨i,Ao,qo,O,rfl,rfl,rfl,hi2,hO⟩
 refine Jz 6 ?_
 refine Jcp rfl ?_ ?_<;>intro c28
 obtain⟨y,hy⟩:=exg ps i om
 refine Jz 11 ?_
 have hcs:=cat_succ hy
 have hcl:=cat_le ps (i+1)
 have hcl2:(cat (ps.take (i+1))).length=(cat (ps.take i)).length+y.l.length:=by rw[hcs,lap]
 have hOl:O.length+y.l.length≤1000000:=by rw[hO];omega
 refine JoneS 1 rfl (mem_at hy Tb.ar) (Jz 3 ?_)
 refine Jge rfl rfl rfl (Ge.appendL encEn_ok (i:=3) (m:=y.l) rfl s52 rfl rfl rfl (src_ro (i:=0) rfl) om om) ?_
 rintro _ _ ⟨A33,q33,rfl,rfl⟩
 refine Jz 9 ?_
 refine Jonly [1,1,1] rfl (JagS (ps.length-(i+1)) om ⟨⟨i+1,A33,q33,(O++y.l),rfl,rfl,rfl,om,(by rw[hO,hcs])⟩,sb⟩)
 refine Jz 12 ?_
 refine Jonly [2] rfl (Je1 results189 ?_)
 exact⟨_,_,by rw[hO,List.take_of_length_le om],by rw[hO,List.take_of_length_le om]⟩
theorem tput_fn(A:OA)(ca:Nat)(l:List (Int×Int))(k v:Int)(hl:l.length≤1000)(hca:l.length≤ca)(ha:Asc l):
    Dz 187 [.agg #[vs A l ca], .int .i64 k, .int .i64 v] [ros encEn A l] (fun r Γ'=>∃B q,r= .agg #[.slice B (putT l k v).length q]∧(putT l k v).length≤q∧Γ'=[ros encEn B (putT l k v)]):=by
 refine Does.en func187 ntmps187 fun w0=>?_
 refine Js (To.g (Jbo fun b3=>?_))
 refine Jal fun b6=>?_
 refine Jz 6 ?_
 refine Jvf (tfind_fn A ca l k om ha) rfl (ocs (oca 2 rfl) (ocn _)) ?_
 refine Jz 11 ?_
 refine JgB ?_ ?_<;>intro g17
 obtain⟨y,hy,hyk,hg⟩:=get_is ha g17
 have hnl:=(List.getElem?_eq_some_iff.1 hy).1
 refine Jz 11 ?_
 refine Jcp rfl ?_ ?_<;>intro c26
 refine Jz 8 ?_
 refine JendC [2] rfl (.inl rfl) results187 rfl (i:=0) rfl r54 rfl ?_
 have hsm:putT l k v=l:=put_same ha (by rw[hg,c26])
 exact⟨A,ca,by rw[hsm],by rw[hsm];exact hca,by rw[hsm]⟩
 refine Jz 3 ?_
 have hlo:=low_le k l
 refine Jz 4 ?_
 refine Jr (Rd.as (v':= .slice (slAt A ca (lowN l k) 2) (l.drop (lowN l k)).length (ca-lowN l k)) (congrArg (fun z=>Value.slice (slAt A ca (lowN l k) 2) z (ca-lowN l k)) (by rw[List.length_drop])) (Rd.sliceLo (lo:=lowN l k) rfl s52 rfl rfl om)) ?_
 refine Jz 9 ?_
 refine Jcond rfl ?_ ?_<;>intro c32
 refine Jz 2 ?_
 refine Jr (Rd.as (v':= .slice (slAt (slAt A ca (lowN l k) 2) (ca-lowN l k) 1 2) ((l.drop (lowN l k)).drop 1).length ((ca-lowN l k)-1)) (congrArg (fun z=>Value.slice (slAt (slAt A ca (lowN l k) 2) (ca-lowN l k) 1 2) z ((ca-lowN l k)-1)) (List.length_drop).symm) (Rd.sliceLo (lo:=1) rfl s52 rfl rfl (by rw[List.length_drop];omega))) ?_
 refine Jz 8 ?_
 refine Jr (Rd.as (v':= .slice A (l.take (lowN l k)).length ca) (congrArg (fun z=>Value.slice A z ca) (by rw[List.length_take];omega)) (Rd.sliceHi (hi:=lowN l k) rfl s52 rfl rfl om)) ?_
 refine Jz 2 ?_
 refine Jr (.bd [.int .i64 k, .int .i64 v]) ?_
 refine To.sn [.int .i64 k, .int .i64 v] fun b42=>?_
 have hlo:=low_le k l
 refine JtailR encEn_ok ca (lowN l k) 3 rfl hca om (JtailR encEn_ok (ca-lowN l k) 1 0 rfl (by rw[List.length_drop];omega) (by rw[List.length_drop];omega) (To.take (lowN l k) 5 rfl (Jas [ros encEn A (l.take (lowN l k)),ros encEn (slAt (slAt A ca (lowN l k) 2) (ca-lowN l k) 1 2) ((l.drop (lowN l k)).drop 1),ros encEn (slAt A ca (lowN l k) 2) (l.drop (lowN l k)),rows encEn 142 2 (some ⟨b42,0,none⟩) 1 [(k,v)],box b6 [.slice none 0 0] 54,box b3 [vs A l ca] 54,ros encEn A l] rfl (Jup3 (JlayRow (JnilS (enc:=encEn) (JfamS ([(⟨A,ca,l.take (lowN l k)⟩:Tb),(⟨(some ⟨b42,0,none⟩),1,[(k,v)]⟩:Tb),(⟨(slAt (slAt A ca (lowN l k) 2) (ca-lowN l k) 1 2),((ca-lowN l k)-1),((l.drop (lowN l k)).drop 1)⟩:Tb)].map Tb.ar) 0 rfl (fun p hp=> .inr ?_) ?_)))))))
 · simp only[List.map_cons,List.map_nil,List.mem_cons,List.not_mem_nil,or_false]at hp
   rcases hp with rfl|rfl|rfl<;>simp[Tb.ar]
 refine Jm ?_
 refine To.sn [vs A (l.take (lowN l k)) ca, .slice (some ⟨b42,0,none⟩) 1 1,vs (slAt (slAt A ca (lowN l k) 2) (ca-lowN l k) 1 2) ((l.drop (lowN l k)).drop 1) ((ca-lowN l k)-1)] fun b44=>?_
 refine Jqf (concat_fn (some ⟨b44,0,none⟩) 3 [(⟨A,ca,l.take (lowN l k)⟩:Tb),(⟨(some ⟨b42,0,none⟩),1,[(k,v)]⟩:Tb),(⟨(slAt (slAt A ca (lowN l k) 2) (ca-lowN l k) 1 2),((ca-lowN l k)-1),((l.drop (lowN l k)).drop 1)⟩:Tb)] (by simp) (by simp only[cat,List.flatMap_cons,List.flatMap_nil,lap,List.length_take,List.length_drop,lc1,ln0];omega)) rfl (ocs (oks_row 0 rfl) (ocs (oca 1 rfl) (ocn _))) ?_
 rintro _ _ ⟨Bc,qc,rfl,rfl⟩
 refine⟨rfl,?_⟩
 refine Jr (.bd [vs Bc (cat [(⟨A,ca,l.take (lowN l k)⟩:Tb),(⟨(some ⟨b42,0,none⟩),1,[(k,v)]⟩:Tb),(⟨(slAt (slAt A ca (lowN l k) 2) (ca-lowN l k) 1 2),((ca-lowN l k)-1),((l.drop (lowN l k)).drop 1)⟩:Tb)]) qc]) ?_
 refine Jz 4 ?_
 have hfin:cat [(⟨A,ca,l.take (lowN l k)⟩:Tb),(⟨(some ⟨b42,0,none⟩),1,[(k,v)]⟩:Tb),(⟨(slAt (slAt A ca (lowN l k) 2) (ca-lowN l k) 1 2),((ca-lowN l k)-1),((l.drop (lowN l k)).drop 1)⟩:Tb)]=putT l k v:=by
  rw[put_low ha,if_pos g17]
  simp[cat]
 refine Jknow (p:=(cat [(⟨A,ca,l.take (lowN l k)⟩:Tb),(⟨(some ⟨b42,0,none⟩),1,[(k,v)]⟩:Tb),(⟨(slAt (slAt A ca (lowN l k) 2) (ca-lowN l k) 1 2),((ca-lowN l k)-1),((l.drop (lowN l k)).drop 1)⟩:Tb)]).length≤qc) (fun w hw=>rows_capD 0 rfl hw) (fun hqc=>?_)
 refine JlayRow (JendC [0] rfl (.inl rfl) results187 rfl (i:=8) rfl r54 rfl ?_)
 exact⟨Bc,qc,by rw[←hfin],by rw[←hfin];exact hqc,by rw[←hfin]⟩
 rw[g17]at c32;cases c32
 refine Jz 15 ?_
 have hlo:=low_le k l
 refine Jz 4 ?_
 refine Jr (Rd.as (v':= .slice (slAt A ca (lowN l k) 2) (l.drop (lowN l k)).length (ca-lowN l k)) (congrArg (fun z=>Value.slice (slAt A ca (lowN l k) 2) z (ca-lowN l k)) (by rw[List.length_drop])) (Rd.sliceLo (lo:=lowN l k) rfl s52 rfl rfl om)) ?_
 refine Jz 9 ?_
 refine Jcond rfl ?_ ?_<;>intro c32
 rw[g17]at c32;cases c32
 refine Jz 7 ?_
 refine Jr (Rd.as (v':= .slice A (l.take (lowN l k)).length ca) (congrArg (fun z=>Value.slice A z ca) (by rw[List.length_take];omega)) (Rd.sliceHi (hi:=lowN l k) rfl s52 rfl rfl om)) ?_
 refine Jz 2 ?_
 refine Jr (.bd [.int .i64 k, .int .i64 v]) ?_
 refine To.sn [.int .i64 k, .int .i64 v] fun b42_2=>?_
 have hlo:=low_le k l
 refine JtailR encEn_ok ca (lowN l k) 3 rfl hca om (To.take (lowN l k) 4 rfl (Jas [ros encEn A (l.take (lowN l k)),ros encEn (slAt A ca (lowN l k) 2) (l.drop (lowN l k)),rows encEn 142 2 (some ⟨b42_2,0,none⟩) 1 [(k,v)],box b6 [.slice none 0 0] 54,box b3 [vs A l ca] 54,ros encEn A l] rfl (Jup2 (JlayRow (JnilS (enc:=encEn) (JfamS ([(⟨A,ca,l.take (lowN l k)⟩:Tb),(⟨(some ⟨b42_2,0,none⟩),1,[(k,v)]⟩:Tb),(⟨(slAt A ca (lowN l k) 2),(ca-lowN l k),(l.drop (lowN l k))⟩:Tb)].map Tb.ar) 0 rfl (fun p hp=> .inr ?_) ?_))))))
 · simp only[List.map_cons,List.map_nil,List.mem_cons,List.not_mem_nil,or_false]at hp
   rcases hp with rfl|rfl|rfl<;>simp[Tb.ar]
 refine Jm ?_
 refine To.sn [vs A (l.take (lowN l k)) ca, .slice (some ⟨b42_2,0,none⟩) 1 1,vs (slAt A ca (lowN l k) 2) (l.drop (lowN l k)) (ca-lowN l k)] fun b44_2=>?_
 refine Jqf (concat_fn (some ⟨b44_2,0,none⟩) 3 [(⟨A,ca,l.take (lowN l k)⟩:Tb),(⟨(some ⟨b42_2,0,none⟩),1,[(k,v)]⟩:Tb),(⟨(slAt A ca (lowN l k) 2),(ca-lowN l k),(l.drop (lowN l k))⟩:Tb)] (by simp) (by simp only[cat,List.flatMap_cons,List.flatMap_nil,lap,List.length_take,List.length_drop,lc1,ln0];omega)) rfl (ocs (oks_row 0 rfl) (ocs (oca 1 rfl) (ocn _))) ?_
 rintro _ _ ⟨Bc,qc,rfl,rfl⟩
 refine⟨rfl,?_⟩
 refine Jr (.bd [vs Bc (cat [(⟨A,ca,l.take (lowN l k)⟩:Tb),(⟨(some ⟨b42_2,0,none⟩),1,[(k,v)]⟩:Tb),(⟨(slAt A ca (lowN l k) 2),(ca-lowN l k),(l.drop (lowN l k))⟩:Tb)]) qc]) ?_
 refine Jz 4 ?_
 have hfin:cat [(⟨A,ca,l.take (lowN l k)⟩:Tb),(⟨(some ⟨b42_2,0,none⟩),1,[(k,v)]⟩:Tb),(⟨(slAt A ca (lowN l k) 2),(ca-lowN l k),(l.drop (lowN l k))⟩:Tb)]=putT l k v:=by
  rw[put_low ha,if_neg (by rw[g17];decide)]
  simp[cat]
 refine Jknow (p:=(cat [(⟨A,ca,l.take (lowN l k)⟩:Tb),(⟨(some ⟨b42_2,0,none⟩),1,[(k,v)]⟩:Tb),(⟨(slAt A ca (lowN l k) 2),(ca-lowN l k),(l.drop (lowN l k))⟩:Tb)]).length≤qc) (fun w hw=>rows_capD 0 rfl hw) (fun hqc=>?_)
 refine JlayRow (JendC [0] rfl (.inl rfl) results187 rfl (i:=7) rfl r54 rfl ?_)
 exact⟨Bc,qc,by rw[←hfin],by rw[←hfin];exact hqc,by rw[←hfin]⟩
theorem tdel_fn(A:OA)(ca:Nat)(l:List (Int×Int))(k:Int)(hl:l.length≤1000)(hca:l.length≤ca)(ha:Asc l):
    Dz 162 [.agg #[vs A l ca], .int .i64 k] [ros encEn A l] (fun r Γ'=>∃B q,r= .agg #[.slice B (delT l k).length q]∧(delT l k).length≤q∧Γ'=[ros encEn B (delT l k)]):=by
 refine Does.en func162 ntmps162 fun w0=>?_
 refine Js (To.g (Jbo fun b2=>?_))
 refine Jal fun b4=>?_
 refine Jz 6 ?_
 refine Jvf (tfind_fn A ca l k om ha) rfl (ocs (oca 2 rfl) (ocn _)) ?_
 refine Jz 14 ?_
 refine Jcond rfl ?_ ?_<;>intro c14
 refine Jz 8 ?_
 refine JendC [2] rfl (.inl rfl) results162 rfl (i:=0) rfl r54 rfl ?_
 have hsm:delT l k=l:=by rw[del_low ha,if_neg (by simpa using c14)]
 exact⟨A,ca,by rw[hsm],by rw[hsm];exact hca,by rw[hsm]⟩
 refine Jz 3 ?_
 have his:(getT l k).isSome=true:=by simpa using c14
 obtain⟨y,hy,hyk,hg⟩:=get_is ha his
 have hnl:=(List.getElem?_eq_some_iff.1 hy).1
 have hlo:=low_le k l
 refine JtailR encEn_ok ca (lowN l k+1) 2 rfl hca om (To.take (lowN l k) 3 rfl (JnilS (enc:=encEn) (JfamS ([(⟨A,ca,l.take (lowN l k)⟩:Tb),(⟨(slAt A ca (lowN l k+1) 2),(ca-(lowN l k+1)),(l.drop (lowN l k+1))⟩:Tb)].map Tb.ar) 0 rfl (fun p hp=> .inr ?_) ?_)))
 · simp only[List.map_cons,List.map_nil,List.mem_cons,List.not_mem_nil,or_false]at hp
   rcases hp with rfl|rfl<;>simp[Tb.ar]
 refine Jflow [] [⟨0,[],0⟩,⟨2,[],0⟩,⟨4,[],0⟩,⟨6,[],0⟩,⟨7,[],0⟩,⟨1,[],1⟩,⟨3,[],0⟩,⟨5,[],1⟩,⟨8,[],0⟩,⟨9,[],2⟩,⟨10,[9],4⟩,⟨11,[9,10],0⟩,⟨12,[9,10],5⟩] mixed.h (by kernel_rfl) (ocn _) (Jz 6 ?_)
 refine Fw.f rfl (Rd.as (v':= .slice A (l.take (lowN l k)).length ca) (congrArg (fun z=>Value.slice A z ca) (by rw[List.length_take];omega)) (Rd.sliceHi (hi:=lowN l k) rfl s52 rfl rfl om)) ?_
 refine Jz 1 ?_
 refine Fw.f rfl (Rd.as (v':= .slice (slAt A ca (lowN l k+1) 2) (l.drop (lowN l k+1)).length (ca-(lowN l k+1))) (congrArg (fun z=>Value.slice (slAt A ca (lowN l k+1) 2) z (ca-(lowN l k+1))) (by rw[List.length_drop])) (Rd.sliceLo (lo:=lowN l k+1) rfl s52 rfl rfl om)) ?_
 refine Fw.sn [vs A (l.take (lowN l k)) ca,vs (slAt A ca (lowN l k+1) 2) (l.drop (lowN l k+1)) (ca-(lowN l k+1))] fun b25=>?_
 refine Fw.callM rfl rfl rfl rfl rfl .fc (concat_fn (some ⟨b25,0,none⟩) 2 [(⟨A,ca,l.take (lowN l k)⟩:Tb),(⟨(slAt A ca (lowN l k+1) 2),(ca-(lowN l k+1)),(l.drop (lowN l k+1))⟩:Tb)] (by simp) (by simp only[cat,List.flatMap_cons,List.flatMap_nil,lap,List.length_take,List.length_drop,lc1,ln0];omega)) rfl (ocs (oks_row 0 rfl) (ocs (oca 1 rfl) (ocn _))) ?_
 rintro _ _ ⟨Bc,qc,rfl,rfl⟩
 refine⟨rfl,?_⟩
 refine Fw.f rfl (.bd [vs Bc (cat [(⟨A,ca,l.take (lowN l k)⟩:Tb),(⟨(slAt A ca (lowN l k+1) 2),(ca-(lowN l k+1)),(l.drop (lowN l k+1))⟩:Tb)]) qc]) ?_
 refine Fw.up rfl rfl rfl (Up.storeS (i:=6) rfl rfl rfl r54 rfl rfl rfl (bta rfl)) (ocn _) ?_
 refine Jz 3 ?_
 have hfin:cat [(⟨A,ca,l.take (lowN l k)⟩:Tb),(⟨(slAt A ca (lowN l k+1) 2),(ca-(lowN l k+1)),(l.drop (lowN l k+1))⟩:Tb)]=delT l k:=by
  rw[del_low ha,if_pos his]
  simp[cat]
 refine Jknow (p:=(cat [(⟨A,ca,l.take (lowN l k)⟩:Tb),(⟨(slAt A ca (lowN l k+1) 2),(ca-(lowN l k+1)),(l.drop (lowN l k+1))⟩:Tb)]).length≤qc) (fun w hw=>rows_capD 0 rfl hw) (fun hqc=>?_)
 refine JlayRow (JendC [0] rfl (.inl rfl) results162 rfl (i:=6) rfl r54 rfl ?_)
 exact⟨Bc,qc,by rw[←hfin],by rw[←hfin];exact hqc,by rw[←hfin]⟩
theorem putB_fn(b:Nat)(s:Sm)(d:Dm)(k v:Int)(hg:Good d.dk.l)(hq:d.dk.l.length≤d.dk.q):
    Dz 160 [.pointer (some ⟨b,2,none⟩), .int .i64 k, .int .i64 v] [box b [vs d.Av d.vars d.qv,vs d.At d.tabs d.qt,vs d.dk.A d.dk.l d.dk.q,vs d.Ae d.effs d.qe, .int .i64 d.cost,vs s.Ac s.code s.qc,vs s.Aa s.args s.qa, .int .i64 s.now,vs s.Ag s.flags s.qg, .int .i64 s.dsk,vs s.Af s.fail s.qf,vs d.As d.stack d.qs, .int .i64 d.next, .int .i64 d.sends, .int .i64 d.disks, .bool d.fault] 123,ros encEn d.dk.A d.dk.l] (fun r Γ'=>r= .tuple #[]∧∃t:Tb,Γ'=[box b (mc s {d with dk:=t}) 123,ros encEn t.A t.l]∧t.l=putR d.dk.l k v∧t.l.length≤t.q):=by
 refine Does.en func160 ntmps160 fun w0=>?_
 refine Jz 4 ?_
 refine Jr (Rd.lS (i:=0) (us:=[vs d.dk.A d.dk.l d.dk.q]) rfl rfl r54 rfl (box_gives (n:=1) rfl) rfl) ?_
 refine Jm ?_
 refine Jvf (tget_fn d.dk.A d.dk.q d.dk.l k (by have:=hg.len;omega) hg.asc) rfl (ocs (oca 1 rfl) (ocn _)) ?_
 refine Jz 10 ?_
 refine JgB ?_ ?_<;>intro g17
 refine Jz 13 ?_
 refine Jr (Rd.lS (i:=0) (us:=[vs d.dk.A d.dk.l d.dk.q]) rfl rfl r54 rfl (box_gives (n:=1) rfl) rfl) ?_
 refine Jz 2 ?_
 refine Jcf [1] (tput_fn d.dk.A d.dk.q d.dk.l k v (by have:=hg.len;omega) hq hg.asc) ?_
 rintro _ _ ⟨Bp,qp,rfl,hqp,rfl⟩
 refine Jnc ?_
 refine To.u (Up.storeS (i:=1) rfl rfl rfl r54 rfl rfl rfl (box_takes (ds:=[vs d.Av d.vars d.qv,vs d.At d.tabs d.qt,vs Bp (putT d.dk.l k v) qp,vs d.Ae d.effs d.qe, .int .i64 d.cost,vs s.Ac s.code s.qc,vs s.Aa s.args s.qa, .int .i64 s.now,vs s.Ag s.flags s.qg, .int .i64 s.dsk,vs s.Af s.fail s.qf,vs d.As d.stack d.qs, .int .i64 d.next, .int .i64 d.sends, .int .i64 d.disks, .bool d.fault]) rfl rfl)) ?_
 refine To.n (Jup1 (Jend0 (.inr rfl) results160 ?_))
 exact⟨rfl,⟨Bp,qp,putT d.dk.l k v⟩,rfl,(by unfold putR;rw[if_pos (.inl g17)]),hqp⟩
 refine Jz 2 ?_
 refine Jr (Rd.lS (i:=0) (us:=[vs d.dk.A d.dk.l d.dk.q]) rfl rfl r54 rfl (box_gives (n:=1) rfl) rfl) ?_
 refine Jvf (tlen_fn d.dk.A d.dk.l.length d.dk.q) rfl (ocn _) ?_
 refine Jz 4 ?_
 refine Jcp rfl ?_ ?_<;>intro c23
 refine Jz 4 ?_
 refine Jr (Rd.lS (i:=0) (us:=[vs d.dk.A d.dk.l d.dk.q]) rfl rfl r54 rfl (box_gives (n:=1) rfl) rfl) ?_
 refine Jz 2 ?_
 refine Jcf [1] (tput_fn d.dk.A d.dk.q d.dk.l k v (by have:=hg.len;omega) hq hg.asc) ?_
 rintro _ _ ⟨Bp,qp,rfl,hqp,rfl⟩
 refine Jnc ?_
 refine To.u (Up.storeS (i:=1) rfl rfl rfl r54 rfl rfl rfl (box_takes (ds:=[vs d.Av d.vars d.qv,vs d.At d.tabs d.qt,vs Bp (putT d.dk.l k v) qp,vs d.Ae d.effs d.qe, .int .i64 d.cost,vs s.Ac s.code s.qc,vs s.Aa s.args s.qa, .int .i64 s.now,vs s.Ag s.flags s.qg, .int .i64 s.dsk,vs s.Af s.fail s.qf,vs d.As d.stack d.qs, .int .i64 d.next, .int .i64 d.sends, .int .i64 d.disks, .bool d.fault]) rfl rfl)) ?_
 refine To.n (Jup1 (Jend0 (.inr rfl) results160 ?_))
 exact⟨rfl,⟨Bp,qp,putT d.dk.l k v⟩,rfl,(by unfold putR;rw[if_pos (.inr om)]),hqp⟩
 refine Jsp (Jend0 (.inr rfl) results160 ?_)
 exact⟨rfl,d.dk,rfl,(by unfold putR;rw[if_neg (by rintro(h|h);exact absurd h (by rw[g17];decide);omega)]),hq⟩
theorem set_sameX{α:Type}{l:List α}{j:Nat}{x:α}(hx:l[j]?=some x):l.set j x=l:=by
 apply List.ext_getElem?
 intro i
 by_cases h:j=i
 ·subst h;rw[List.getElem?_set_self (List.getElem?_eq_some_iff.1 hx).1,hx]
 ·rw[List.getElem?_set_ne h]
theorem putT_fn(At:OA)(qt:Nat)(T:List Tb)(j:Nat)(x:Tb)(hx:T[j]?=some x)(k v:Int)(hg:Good x.l)(hq:x.l.length≤x.q):
    Dz 160 [.pointer (some ⟨blk At,ofs At+j*1,none⟩), .int .i64 k, .int .i64 v] [rows Tb.cells 54 1 At qt T,ros encEn x.A x.l] (fun r Γ'=>r= .tuple #[]∧∃t:Tb,Γ'=[rows Tb.cells 54 1 At qt (T.set j t),ros encEn t.A t.l]∧t.l=putR x.l k v∧t.l.length≤t.q):=by
 have hjl:j<T.length:=(List.getElem?_eq_some_iff.1 hx).1
 refine Does.en func160 ntmps160 fun w0=>?_
 refine Jz 6 ?_
 refine Jvf (tget_fn x.A x.q x.l k (by have:=hg.len;omega) hg.asc) rfl (ocs (oca 1 rfl) (ocn _)) ?_
 refine Jz 10 ?_
 refine JgB ?_ ?_<;>intro g17
 refine Jz 16 ?_
 refine Jcf [1] (tput_fn x.A x.q x.l k v (by have:=hg.len;omega) hq hg.asc) ?_
 rintro _ _ ⟨Bp,qp,rfl,hqp,rfl⟩
 refine Jnc ?_
 refine To.u (Up.storeS (i:=1) (us:=Tb.cells (⟨Bp,qp,(putT x.l k v)⟩:Tb)) rfl rfl rfl r54 (encTb.len _) rfl rfl (rows_takes encTb (by decide) om)) ?_
 refine To.n (Jup1 (Jend0 (.inr rfl) results160 ?_))
 exact⟨rfl,⟨Bp,qp,putT x.l k v⟩,rfl,(by unfold putR;rw[if_pos (.inl g17)]),hqp⟩
 refine Jz 3 ?_
 refine Jvf (tlen_fn x.A x.l.length x.q) rfl (ocn _) ?_
 refine Jz 4 ?_
 refine Jcp rfl ?_ ?_<;>intro c23
 refine Jz 7 ?_
 refine Jcf [1] (tput_fn x.A x.q x.l k v (by have:=hg.len;omega) hq hg.asc) ?_
 rintro _ _ ⟨Bp,qp,rfl,hqp,rfl⟩
 refine Jnc ?_
 refine To.u (Up.storeS (i:=1) (us:=Tb.cells (⟨Bp,qp,(putT x.l k v)⟩:Tb)) rfl rfl rfl r54 (encTb.len _) rfl rfl (rows_takes encTb (by decide) om)) ?_
 refine To.n (Jup1 (Jend0 (.inr rfl) results160 ?_))
 exact⟨rfl,⟨Bp,qp,putT x.l k v⟩,rfl,(by unfold putR;rw[if_pos (.inr om)]),hqp⟩
 refine Jsp (Jend0 (.inr rfl) results160 ?_)
 exact⟨rfl,x,by rw[set_sameX hx],(by unfold putR;rw[if_neg (by rintro(h|h);exact absurd h (by rw[g17];decide);omega)]),hq⟩
theorem nanI_fn(a:Int):
    Dz 157 [.int .i64 a] [] (fun v _=>v= .bool false):=by
 refine Does.en func157 ntmps157 fun w0=>?_
 refine Jz 14 ?_
 refine Je1 results157 ?_
 simp
theorem nanS_fn(a:Int):
    Dz 186 [.int .i64 a] [] (fun v _=>v= .bool false):=by
 refine Does.en func186 ntmps186 fun w0=>?_
 refine Jz 14 ?_
 refine Je1 results186 ?_
 simp
theorem lessI_fn(a b:Int):
    Dz 106 [.int .i64 a, .int .i64 b] [] (fun v _=>v= .bool (decide (a<b))):=by
 refine Does.en func106 ntmps106 fun w0=>?_
 refine Jz 8 ?_
 refine Jvf (nanI_fn a) rfl (ocn _) ?_
 refine Jz 14 ?_
 refine Je1 results106 ?_
 rfl
theorem insI_fn(A:OA)(cap:Nat)(l:List Int)(hl:l.length≤12):
    Dz 100 [vs A l cap, .int .i64 0,nv l.length] [rows encI 3 1 A cap l] (fun v Γ'=>v= .tuple #[]∧Γ'=[rows encI 3 1 A cap (isort cmpI l)]):=by
 refine Does.en func100 ntmps100 fun w0=>?_
 refine Jz 3 ?_
 refine Jr (Rd.add64 rfl rfl rfl om) ?_
 refine Jz 4 ?_
 refine Jonly [0] rfl (Jas [rows encI 3 1 A cap (isort cmpI (l.take 1)++l.drop 1)] (by rw[isort_one]<;>rfl) (JloopS (fun mz ρ Γ=>∃(i:Nat),ρ=[(0,vs A (isort cmpI (l.take i)++l.drop i) cap),(1, .int .i64 0),(2,nv l.length),(6,nv i)]∧Γ=[rows encI 3 1 A cap (isort cmpI (l.take i)++l.drop i)]∧mz=l.length-i∧(1≤i∧(i≤l.length∨l.length=0))) (l.length-1) ⟨⟨1,rfl,rfl,rfl,om⟩,⟨(congrArg (fun n:Nat=>some (Value.slice A n cap)) (congrArg List.length (isort_one l).symm)),rfl,rfl,rfl,trivial⟩⟩ ?_))
 rintro mz _ _ ⟨i,rfl,rfl,rfl,hi⟩
 refine Jz 8 ?_
 refine Jcp rfl ?_ ?_<;>intro c12
 refine Jz 11 ?_
 obtain⟨x,hx⟩:=exg l i om
 have hlen:(isort cmpI (l.take i)).length=i:=by rw[isort_len,List.length_take];omega
 have hd0:=dog hx
 refine Jonly [0] rfl (Jas [rows encI 3 1 A cap ((isort cmpI (l.take i))++x::([]++l.drop (i+1)))] (by rw[hd0];rfl) (JloopS (fun mz ρ Γ=>∃(p:List Int) (q:List Int),ρ=[(0,vs A (p++x::(q++l.drop (i+1))) cap),(1, .int .i64 0),(2,nv l.length),(6,nv i),(7,nv p.length)]∧Γ=[rows encI 3 1 A cap (p++x::(q++l.drop (i+1)))]∧mz=p.length∧(isort cmpI (l.take i)=p++q)∧(∀z∈q,cmpI x z<0)) ((isort cmpI (l.take i)).length) ⟨⟨(isort cmpI (l.take i)),[],rfl,rfl,rfl,((List.append_nil _).symm),(fun z hz=>absurd hz List.not_mem_nil)⟩,⟨(congrArg (fun n:Nat=>some (Value.slice A n cap)) (congrArg (fun d=>(isort cmpI (l.take i)++d).length) hd0)),rfl,rfl,rfl,(congrArg (fun n:Nat=>some (Value.int .i64 (n:Int))) hlen.symm),trivial⟩⟩ ?_))
 rintro mz _ _ ⟨p,q,rfl,rfl,rfl,hpq,hq⟩
 have hln:(p++x::(q++l.drop (i+1))).length=l.length:=by
  have h1:=congrArg List.length hpq
  rw[isort_len,List.length_take,lap]at h1
  simp only[lap,lc1,List.length_drop];omega
 have hpi:p.length<l.length:=by rw[←hln];simp only[lap,lc1];omega
 refine Js (Js ?_)
 have hgx:(p++x::(q++l.drop (i+1)))[p.length]?=some x:=get_mid _ _ _
 refine Jfw [] [0,1,2,3,4,5,8,9,10,106,107,111,112,313,14] (ocn _) ?_
 refine Jz 3 ?_
 refine Fw.rdP rfl rfl rfl rfl (Rd.move rfl rfl) (fun g19=>?_) (fun g19=>?_)
 have hpp:0<p.length:=om
 obtain⟨p',y,hp⟩:=snoc_of_pos hpp
 have hgy:(p++x::(q++l.drop (i+1)))[p.length-1]?=some y:=by rw[hp];simp
 refine Jz 4 ?_
 refine Fw.f rfl (Rd.as (v':=nv (p.length-1)) (congrArg (Value.int .i64) om) (Rd.sub64 rfl rfl rfl om)) ?_
 refine Jz 4 ?_
 refine Fw.qf (lessI_fn x y) (ocn _) ?_
 refine Jz 3 ?_
 refine Jcp rfl ?_ ?_<;>intro c30
 have hxy:=cmpI_neg.2 c30
 refine Jz 4 ?_
 have hl2:((p++x::(q++l.drop (i+1))).set p.length y).length=l.length:=by rw[List.length_set];exact hln
 refine Jknow (p:=A=some ⟨blk A,ofs A,none⟩) (fun w hw=>rows_some encI_ok (by decide) (l:=(p++x::(q++l.drop (i+1)))) (by rw[hln];omega) 0 rfl hw) (fun hA=>?_)
 refine Jfw [] [0,1,2,3,4,5,6,7,8,10,11,12,109,113,14,515,16,517] (ocn _) ?_
 refine Jz 4 ?_
 refine Fw.f rfl (Rd.as (v':=nv (p.length-1)) (congrArg (Value.int .i64) om) (Rd.sub64 rfl rfl rfl om)) ?_
 refine Jz 2 ?_
 refine Fw.f rfl (Rd.as (v':=nv (p.length-1)) (congrArg (Value.int .i64) om) (Rd.sub64 rfl rfl rfl om)) ?_
 refine Fw.f rfl (Rd.indexS (j:=(p.length-1)) hA rfl rfl rfl s62 (by rw[hln];omega)) ?_
 refine Jz 2 ?_
 refine Fw.f rfl (Rd.indexS (j:=p.length) hA rfl rfl rfl s62 (by rw[hln];omega)) ?_
 refine Jz 2 ?_
 refine Fw.f rfl (Rd.indexS (j:=p.length) hA rfl rfl rfl s62 (by rw[hln];omega)) ?_
 refine Fw.up rfl rfl rfl (Up.store (i:=0) rfl rfl rfl c3 rfl rfl (rows_takes encI_ok (y:=y) (by decide) om)) (ocn _) ?_
 refine Fw.f rfl (Rd.indexS (j:=(p.length-1)) hA rfl rfl rfl s62 (by rw[hln];omega)) ?_
 refine Fw.up rfl rfl rfl (Up.store (i:=0) rfl rfl rfl c3 rfl rfl (rows_takes encI_ok (y:=x) (by decide) om)) (ocn _) ?_
 refine Jz 5 ?_
 refine Jr (Rd.as (v':=nv (p.length-1)) (congrArg (Value.int .i64) om) (Rd.sub64 rfl rfl rfl om)) ?_
 refine Jz 3 ?_
 have hsw:=swap_set p' (q++l.drop (i+1)) x y
 have hpl:p.length-1=p'.length:=by rw[hp];simp
 refine Jsub [(0,vs A (p'++x::((y::q)++l.drop (i+1))) cap),(1, .int .i64 0),(2,nv l.length),(6,nv i),(7,nv p'.length)] ⟨(congrArg (fun n:Nat=>some (Value.slice A n cap)) (by rw[hp];simp)),rfl,rfl,rfl,(congrArg (fun n:Nat=>some (Value.int .i64 (n:Int))) hpl),trivial⟩ (Jonly [0] rfl (Jas [rows encI 3 1 A cap (p'++x::((y::q)++l.drop (i+1)))] (by rw[hpl,hp];rw[hsw];rfl) ?_))
 refine Jag (p'.length) (by rw[hp];simp) ⟨p',(y::q),rfl,rfl,rfl,(by rw[hpq,hp];simp),(fun z hz=>by
  rcases List.mem_cons.1 hz with rfl|hz
  ·exact hxy
  ·exact hq z hz)⟩
 have hstop:p.length=0∨∀z,p.getLast?=some z→¬cmpI x z<0:= .inr (fun z hz=>by rw[hp]at hz;simp at hz;subst hz;exact fun h=>c30 (cmpI_neg.1 h))
 refine Jz 12 ?_
 have hlast:∀z,p.getLast?=some z→¬cmpI x z<0:=fun z hz=>by
  rcases hstop with h0|h0
  ·rw[List.eq_nil_of_length_eq_zero h0]at hz;simp at hz
  ·exact h0 z hz
 have hnext:(p++x::(q++l.drop (i+1)))=isort cmpI (l.take (i+1))++l.drop (i+1):=by rw[isort_next hx hpq hq hlast];simp
 refine Jonly [0] rfl (Jas [rows encI 3 1 A cap (isort cmpI (l.take (i+1))++l.drop (i+1))] (by rw[hnext]<;>rfl) (JagS (l.length-(i+1)) om ⟨⟨i+1,rfl,rfl,rfl,om⟩,⟨(congrArg (fun n:Nat=>some (Value.slice A n cap)) (congrArg List.length hnext)),rfl,rfl,rfl,trivial⟩⟩))
 have hstop:p.length=0∨∀z,p.getLast?=some z→¬cmpI x z<0:= .inl om
 refine Jz 26 ?_
 have hlast:∀z,p.getLast?=some z→¬cmpI x z<0:=fun z hz=>by
  rcases hstop with h0|h0
  ·rw[List.eq_nil_of_length_eq_zero h0]at hz;simp at hz
  ·exact h0 z hz
 have hnext:(p++x::(q++l.drop (i+1)))=isort cmpI (l.take (i+1))++l.drop (i+1):=by rw[isort_next hx hpq hq hlast];simp
 refine Jonly [0] rfl (Jas [rows encI 3 1 A cap (isort cmpI (l.take (i+1))++l.drop (i+1))] (by rw[hnext]<;>rfl) (JagS (l.length-(i+1)) om ⟨⟨i+1,rfl,rfl,rfl,om⟩,⟨(congrArg (fun n:Nat=>some (Value.slice A n cap)) (congrArg List.length hnext)),rfl,rfl,rfl,trivial⟩⟩))
 refine Jz 4 ?_
 refine Jend0 (.inr rfl) results100 ?_
 exact⟨rfl,by rw[show l.take i=l from List.take_of_length_le om,List.drop_eq_nil_of_le om,List.append_nil]⟩
theorem pdqI_fn(A:OA)(cap:Nat)(l:List Int)(hl:l.length≤12)(k:Int):
    Dz 61 [vs A l cap, .int .i64 0,nv l.length, .int .i64 k] [rows encI 3 1 A cap l] (fun v Γ'=>v= .tuple #[]∧Γ'=[rows encI 3 1 A cap (isort cmpI l)]):=by
 refine Does.en func61 ntmps61 fun w0=>?_
 refine Jz 11 ?_
 refine JloopOnce (Jz 5 ?_)
 refine Jr (Rd.sub64 rfl rfl rfl om) ?_
 refine Jz 10 ?_
 refine Jcp rfl ?_ ?_<;>intro c23
 refine Jz 5 ?_
 refine Jcf [0] (insI_fn A cap l hl) ?_
 rintro _ _ ⟨rfl,rfl⟩
 refine Jz 7 ?_
 refine Jend0 (.inl rfl) results61 ?_
 exact⟨rfl,rfl⟩
 exfalso;omega
theorem sortI_fn(A:OA)(cap:Nat)(l:List Int)(hl:l.length≤12):
    Dz 34 [vs A l cap] [rows encI 3 1 A cap l] (fun v Γ'=>v= .tuple #[]∧Γ'=[rows encI 3 1 A cap (isort cmpI l)]):=by
 refine Does.en func34 ntmps34 fun w0=>?_
 refine Jz 11 ?_
 refine Jr (Rd.conv rfl rfl underlying3 underlying205 (wrapU om)) ?_
 refine Jqf (blen_fn l.length om) rfl (ocn _) ?_
 rintro _ _ ⟨k1,rfl,rfl⟩
 refine⟨rfl,?_⟩
 refine Jcf [0] (pdqI_fn A cap l hl k1) ?_
 rintro _ _ ⟨rfl,rfl⟩
 refine To.n (Jend0 (.inr rfl) results34 ?_)
 exact⟨rfl,rfl⟩
abbrev AscI(l:List Int):Prop:=l.Pairwise (fun a b=>a≤b)
theorem isortI_asc(l:List Int):AscI (isort cmpI l):=(isort_sorted cmp_cmpI l).imp fun{a b} h=>by
 unfold cmpI at h
 split at h
 ·omega
 ·split at h<;>omega
def lowI:List Int→Int→Nat
 |[],_=>0
 |e::r,k=>if e<k then lowI r k+1 else 0
theorem lowI_le(k:Int):∀l:List Int,lowI l k≤l.length
 |[]=>Nat.le_refl _
 |e::r=>by rw[lowI];split<;>simp[lowI_le k r]
theorem lowI_iff{k:Int}:∀{l:List Int} {h:Nat} {x:Int},AscI l→l[h]?=some x→(x<k↔h<lowI l k)
 |[],h,x,_,hx=>by simp at hx
 | e ::r,h,x,ha,hx=>by
   obtain⟨h1,h2⟩:=List.pairwise_cons.1 ha
   rw[lowI]
   cases h with
   | zero=>
     obtain rfl:e=x:=by simpa using hx
     by_cases c:e<k
     ·simp[c]
     ·simp[c]
   | succ h=>
     have hx':r[h]?=some x:=by simpa using hx
     by_cases c:e<k
     ·rw[if_pos c,lowI_iff h2 hx'];omega
     · rw[if_neg c]
       have:=h1 x (mog hx')
       omega
theorem lowI_mem{k:Int}:∀{l:List Int},AscI l→(k∈l↔l[lowI l k]?=some k)
 |[],_=>by simp
 | e ::r,ha=>by
   obtain⟨h1,h2⟩:=List.pairwise_cons.1 ha
   rw[lowI]
   by_cases c:e<k
   · rw[if_pos c,List.getElem?_cons_succ,←lowI_mem h2,List.mem_cons]
     exact⟨fun h=>h.elim (fun h=>by omega) id, .inr⟩
   · rw[if_neg c,List.getElem?_cons_zero,List.mem_cons]
     constructor
     · rintro(h|h)
       ·rw[h]
       ·have:=h1 k h;rw[show e=k by omega]
     ·intro h;exact .inl (Option.some.inj h).symm
theorem bs_fn(A:OA)(ca:Nat)(l:List Int)(k:Int)(hl:l.length≤1000000)(ha:AscI l):
    Dz 159 [vs A l ca, .int .i64 k] [ros encI A l] (fun v _=>v= .tuple #[nv (lowI l k), .bool (decide (k∈l))]):=by
 refine Does.en func159 ntmps159 fun w0=>?_
 refine Jz 22 ?_
 refine Jonly [0] rfl (JloopS (fun mz ρ Γ=>∃(i:Nat) (j:Nat),ρ=[(0,vs A l ca),(1, .int .i64 k),(6,nv l.length),(7,nv i),(8,nv j)]∧Γ=[ros encI A l]∧mz=j-i∧(i≤lowI l k∧lowI l k≤j∧j≤l.length)) (l.length-0) ⟨⟨0,l.length,rfl,rfl,rfl,⟨Nat.zero_le _,lowI_le _ _,Nat.le_refl _⟩⟩,sb⟩ ?_)
 rintro mz _ _ ⟨i,j,rfl,rfl,rfl,hij⟩
 refine Jz 8 ?_
 refine Jcp rfl ?_ ?_<;>intro c15
 refine Jz 7 ?_
 refine Jr (Rd.addN (a:=i) (b:=j) rfl rfl rfl om) ?_
 refine Jr (Rd.conv rfl rfl underlying3 underlying205 (wrapU om)) ?_
 refine Jr (Rd.shrK (a:=(i+j)) (j:=1) rfl rfl rfl (by simp only[IntKind.bits];omega)) ?_
 refine Jr (Rd.conv rfl rfl underlying205 underlying3 (IntWalk.i64_in _ om)) ?_
 refine Jz 4 ?_
 have hm1:i≤(i+j)/2^1∧(i+j)/2^1<j:=om
 obtain⟨x,hx⟩:∃z0,l[((i+j)/2^1)]?=some z0:=⟨l[((i+j)/2^1)]'om,gge _⟩
 have hcm:x<k↔(i+j)/2^1<lowI l k:=lowI_iff ha hx
 refine Jz 3 ?_
 refine Jr (Rd.ixo encI_ok (i:=0) (j:=((i+j)/2^1)) rfl rfl rfl s62 rfl hx) ?_
 refine Jz 2 ?_
 refine Jvf (lessI_fn x k) rfl (ocn _) ?_
 refine To.n (Jt (Jcp rfl (fun c27=>?_) (fun c27=>?_)))
 refine Jz 7 ?_
 refine Jonly [0] rfl (JagS (j-(((i+j)/2^1)+1)) om ⟨⟨((i+j)/2^1)+1,j,rfl,rfl,rfl,om⟩,sb⟩)
 refine Jz 6 ?_
 refine Jonly [0] rfl (JagS (((i+j)/2^1)-i) om ⟨⟨i,((i+j)/2^1),rfl,rfl,rfl,om⟩,sb⟩)
 refine Jz 6 ?_
 obtain rfl:i=lowI l k:=om
 refine Jsub [(0,vs A l ca),(1, .int .i64 k),(6,nv l.length),(7,nv ((lowI l k)))] sb (Jz 5 ?_)
 refine JgP ?_ ?_<;>intro g35
 obtain⟨x,hx⟩:∃z0,l[(lowI l k)]?=some z0:=⟨l[(lowI l k)]'om,gge _⟩
 refine Jz 6 ?_
 refine JgP ?_ ?_<;>intro g42
 refine Jz 16 ?_
 refine Jend2 (.inl rfl) results159 rfl rfl ?_
 show Value.tuple #[_,_]=Value.tuple #[_,_]
 have hmm:k∈l↔x=k:=by rw[lowI_mem ha,hx];exact⟨Option.some.inj,fun h=>by rw[h]⟩
 by_cases hk:x=k
 ·rw[show decide (k∈l)=true from decide_eq_true (hmm.2 hk)];first|done|simp_all
 ·rw[show decide (k∈l)=false from decide_eq_false fun h=>hk (hmm.1 h)];first|done|simp_all
 refine Jz 4 ?_
 refine Jvf (nanS_fn x) rfl (ocn _) ?_
 refine Jz 11 ?_
 refine Jend2 (.inl rfl) results159 rfl rfl ?_
 show Value.tuple #[_,_]=Value.tuple #[_,_]
 have hmm:k∈l↔x=k:=by rw[lowI_mem ha,hx];exact⟨Option.some.inj,fun h=>by rw[h]⟩
 by_cases hk:x=k
 ·rw[show decide (k∈l)=true from decide_eq_true (hmm.2 hk)];first|done|simp_all
 ·rw[show decide (k∈l)=false from decide_eq_false fun h=>hk (hmm.1 h)];first|done|simp_all
 refine Jz 23 ?_
 refine Jend2 (.inl rfl) results159 rfl rfl ?_
 show Value.tuple #[_,_]=Value.tuple #[_,_]
 rw[show decide (k∈l)=false from decide_eq_false fun h=>by rw[lowI_mem ha,List.getElem?_eq_none om]at h;cases h]
end Go.Proofs.YtlihklladkagpaaGreatDoor

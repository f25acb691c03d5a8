/- Own text. -/
import Derived.Test.YtlihklladkagpaaGreatDoorXd
set_option linter.unusedVariables false
set_option linter.unusedSimpArgs false
set_option maxHeartbeats 2000000
set_option maxRecDepth 100000
namespace Go.Proofs.YtlihklladkagpaaGreatDoor
open Go.Proofs.Tryz
open Go.RowKit Go.Flow Go.Mem Go.Sep
theorem KO(x:Int×Int)(k:Int):
    Dz 209 [.agg (Be x).toArray,iv k] [] (fun v _=>v=iv (Jb x.1 k)):=by
 refine Am func209 ntmps209 fun w0=>?_
 refine Js (To.g (Jbo fun b2=>?_))
 refine Jz 8 ?_
 refine Jvf (UY x.1 k) rfl (ocn _) ?_
 refine Jz 4 ?_
 refine Je1 results209 ?_
 rfl
theorem XA(A:OA)(ca:Nat)(l:List (Int×Int))(k:Int)(hl:l.length≤1000000)(ha:Asc l):
    Dz 208 [vs A l ca,iv k, .func (.func 209) #[] #[]] [ros Be A l] (fun v _=>v= .tuple #[nv (Cs l k), .bool (Fp l k).isSome]):=by
 refine Am func208 ntmps208 fun w0=>?_
 refine Jz 22 ?_
 refine Ce [0] rfl (Ie (fun mz ρ Γ=>∃(i:Nat) (j:Nat),ρ=[(0,vs A l ca),(1,iv k),(2, .func (.func 209) #[] #[]),(8,nv l.length),(9,nv i),(10,nv j)]∧Γ=[ros Be A l]∧mz=j-i∧(i≤Cs l k∧Cs l k≤j∧j≤l.length)) (l.length-0) ⟨⟨0,l.length,rfl,rfl,rfl,⟨aEw _,Yg _ _,aEu _⟩⟩,sb⟩ ?_)
 rintro mz _ _ ⟨i,j,rfl,rfl,rfl,hij⟩
 refine Jz 8 ?_
 refine Jcp rfl ?_ ?_<;>intro c17
 refine Jz 7 ?_
 refine Jr (Ns (a:=i) (b:=j) rfl rfl rfl om) ?_
 refine Jr (Fv rfl rfl underlying3 underlying205 (JC om)) ?_
 refine Jr (eT (a:=(i+j)) (j:=1) rfl rfl rfl (by simp only[IntKind.bits];omega)) ?_
 refine Jr (Fv rfl rfl underlying205 underlying3 (IntWalk.i64_in _ om)) ?_
 refine Jz 4 ?_
 have hm1:i≤(i+j)/2^1∧(i+j)/2^1<j:=om
 obtain⟨x,hx⟩:∃z0,l[((i+j)/2^1)]?=some z0:=⟨l[((i+j)/2^1)]'om,gge _⟩
 have hcm:Jb x.1 k<0↔(i+j)/2^1<Cs l k:=Ze.trans (AP ha hx)
 refine Jz 4 ?_
 refine Jr (Yb Eu (i:=0) (j:=((i+j)/2^1)) rfl rfl rfl s52 rfl hx) ?_
 refine Jz 2 ?_
 refine JcV rfl rfl rfl (Ent.func (first:=[]) (captured:=[]) rfl rfl rfl (kc.h 209 rfl)) (KO x k) rfl (ocn _) (Jz 3 ?_)
 refine Jcp rfl ?_ ?_<;>intro c31
 refine Jz 7 ?_
 refine Ce [0] rfl (Vb (j-(((i+j)/2^1)+1)) om ⟨⟨((i+j)/2^1)+1,j,rfl,rfl,rfl,om⟩,sb⟩)
 refine Jz 6 ?_
 refine Ce [0] rfl (Vb (((i+j)/2^1)-i) om ⟨⟨i,((i+j)/2^1),rfl,rfl,rfl,om⟩,sb⟩)
 refine Jz 6 ?_
 obtain rfl:i=Cs l k:=om
 refine Ot [(0,vs A l ca),(1,iv k),(2, .func (.func 209) #[] #[]),(8,nv l.length),(9,nv ((Cs l k)))] sb (Jz 5 ?_)
 refine JgP ?_ ?_<;>intro g39
 obtain⟨x,hx⟩:∃z0,l[(Cs l k)]?=some z0:=⟨l[(Cs l k)]'om,gge _⟩
 refine Jz 6 ?_
 refine JcV rfl rfl rfl (Ent.func (first:=[]) (captured:=[]) rfl rfl rfl (kc.h 209 rfl)) (KO x k) rfl (ocn _) (Jz 7 ?_)
 refine Gc (.inl rfl) results208 rfl rfl ?_
 show Value.tuple #[_,_]=Value.tuple #[_,_]
 rw[get_at ha hx]
 by_cases hk:x.1=k
 · have hc0:Jb x.1 k=0:=lW.2 hk
   rw[aEh hk,hc0];rfl
 ·simp[hk,mt lW.1 hk]
 refine Jz 14 ?_
 refine Gc (.inl rfl) results208 rfl rfl ?_
 show Value.tuple #[_,_]=Value.tuple #[_,_]
 rw[QX ha om];rfl
theorem iX(A:OA)(ca:Nat)(l:List (Int×Int))(k:Int)(hl:l.length≤1000000)(ha:Asc l):
    Dz 188 [.agg #[vs A l ca],iv k] [ros Be A l] (fun v _=>v= .tuple #[nv (Cs l k), .bool (Fp l k).isSome]):=by
 refine Am func188 ntmps188 fun w0=>?_
 refine Js (To.g (Jbo fun b2=>?_))
 refine Jz 9 ?_
 refine Jvf (XA A ca l k hl ha) rfl (ocs (oca 1 rfl) (ocn _)) ?_
 refine Jz 7 ?_
 refine Gc (.inl rfl) results188 rfl rfl ?_
 rfl
theorem Zz(A:OA)(ca:Nat)(l:List (Int×Int))(k:Int)(hl:l.length≤1000000)(ha:Asc l):
    Dz 161 [.agg #[vs A l ca],iv k] [ros Be A l] (fun v _=>v= .tuple #[iv ((Fp l k).getD 0), .bool (Fp l k).isSome]):=by
 refine Am func161 ntmps161 fun w0=>?_
 refine Js (To.g (Jbo fun b2=>?_))
 refine Jz 8 ?_
 refine Jvf (iX A ca l k hl ha) rfl (ocs (oca 1 rfl) (ocn _)) ?_
 refine Jz 14 ?_
 refine Ed rfl ?_ ?_<;>intro c15
 refine Jz 8 ?_
 refine Gc (.inl rfl) results161 rfl rfl ?_
 have hn:Fp l k=none:=by rw[←Option.not_isSome_iff_eq_none];simpa using c15
 show Value.tuple #[_,_]=Value.tuple #[_,_]
 rw[hn];rfl
 refine Jz 3 ?_
 have his:(Fp l k).isSome=true:=by simpa using c15
 obtain⟨y,hy,hyk,hg⟩:=wY ha his
 refine Jz 12 ?_
 refine Gc (.inl rfl) results161 rfl rfl ?_
 show Value.tuple #[_,_]=Value.tuple #[_,_]
 rw[hg];rfl
theorem pO(A:OA)(n ca:Nat):
    Dz 18 [.agg #[.slice A n ca]] [] (fun v _=>v=nv n):=by
 refine Am func18 ntmps18 fun w0=>?_
 refine Js (To.g (Jbo fun b1=>?_))
 refine Jz 12 ?_
 refine Je1 results18 ?_
 rfl
theorem KP(n:Nat)(hn:n≤1000000):
    Dz 210 [nz,nv n] [] (fun v Γ'=>∃A q,v= .slice A 0 q∧n≤q∧Γ'=[rows Be 142 2 A q []]):=by
 refine Am func210 ntmps210 fun w0=>?_
 refine Jz 12 ?_
 refine Jcp rfl ?_ ?_<;>intro c6
 exfalso;omega
 refine Jz 7 ?_
 refine Jr (Rd.cap rfl underlying52 rfl) ?_
 refine Jz 2 ?_
 refine Jr (Cr (v':=iv (0)) rfl (Gi (m:=0) (n:=0) rfl rfl rfl (by decide))) ?_
 refine Jr (Cr (v':=nv n) (congrArg iv om) (Gi rfl rfl rfl om)) ?_
 refine Jz 9 ?_
 refine Jcp rfl ?_ ?_<;>intro c16
 refine Jz 3 ?_
 refine Jr (Rd.cap rfl underlying52 rfl) ?_
 refine Jr (Eo (hi:=0) rfl s52 rfl rfl om) ?_
 refine Jm ?_
 refine Jmk rfl rfl rfl (iD (enc:=Be) (n:=n) rfl s52 underlying3 rfl rfl om om om) ?_
 rintro _ _ ⟨A22,q22,⟨rfl,hq22⟩,rfl⟩
 refine Jz 2 ?_
 refine Jr (Eo (hi:=0) rfl s52 rfl rfl om) ?_
 refine Jz 10 ?_
 refine Ce [0] rfl (Je1 results210 ?_)
 exact⟨_,_,rfl,by omega,rfl⟩
 refine Jz 9 ?_
 obtain rfl:n=0:=om
 refine Cz (Be) 142 2 (Ce [0] rfl (Je1 results210 ?_))
 exact⟨_,_,rfl,by omega,rfl⟩
def cat(l:List Tb):List (Int×Int):=l.flatMap Tb.l
theorem sU{l:List Tb}{i:Nat}{x:Tb}(hx:l[i]?=some x):cat (l.take (i+1))=cat (l.take i)++x.l:=by rw[Cf hx];simp[cat]
theorem KQ(l:List Tb)(i:Nat):(cat (l.take i)).length≤(cat l).length:=by
 have e:cat l=cat (l.take i)++cat (l.drop i):=by rw[cat,cat,cat,←aFe,aFs]
 rw[e,lap];omega
theorem bM(As:OA)(cp:Nat)(ps:List Tb)(hpl:ps.length≤1000000)(hcl0:(cat ps).length≤1000000):
    Dz 189 [vs As ps cp] [ros Tb.cells As ps,De Be (ps.map Tb.ar)] (fun v Γ'=>∃B q,v= .slice B (cat ps).length q∧Γ'=[rows Be 142 2 B q (cat ps)]):=by
 refine Am func189 ntmps189 fun w0=>?_
 refine Jz 19 ?_
 refine Ce [0,0] rfl (Ie (fun mz ρ Γ=>∃(i:Nat) (n:Nat),ρ=[(0,vs As ps cp),(3,nv n),(9,vs As ps cp),(10,nv ps.length),(11,nv i)]∧Γ=[ros Tb.cells As ps,De Be (ps.map Tb.ar)]∧mz=ps.length-i∧(i≤ps.length)∧(n=(cat (ps.take i)).length)) (ps.length-0) ⟨⟨0,0,rfl,rfl,rfl,(aEw _),rfl⟩,sb⟩ ?_)
 rintro mz _ _ ⟨i,n,rfl,rfl,rfl,hi,hn⟩
 refine Jz 6 ?_
 refine Jcp rfl ?_ ?_<;>intro c12
 obtain⟨y,hy⟩:=exg ps i om
 refine Jz 12 ?_
 have hcs:=sU hy
 have hcl:=KQ ps (i+1)
 have hcl2:(cat (ps.take (i+1))).length=(cat (ps.take i)).length+y.l.length:=by rw[hcs,lap]
 refine Jz 4 ?_
 refine Jr (Ns (a:=n) (b:=y.l.length) rfl rfl rfl om) ?_
 refine Jz 9 ?_
 refine Jcp rfl ?_ ?_<;>intro c20
 exfalso;omega
 refine Jz 8 ?_
 refine Ce [0,0] rfl (Vb (ps.length-(i+1)) om ⟨⟨i+1,(n+y.l.length),rfl,rfl,rfl,om,om⟩,sb⟩)
 refine Jz 6 ?_
 obtain rfl:n=(cat ps).length:=by rw[hn,aEm om]
 refine Ot [(0,vs As ps cp),(3,nv ((cat ps).length))] sb (Jz 2 ?_)
 refine Jqf (KP (cat ps).length om) rfl (ocn _) ?_
 rintro _ _ ⟨Ag,qg,rfl,hqg,rfl⟩
 refine⟨rfl,?_⟩
 refine Jz 12 ?_
 refine Ce [1,1,0] rfl (Ie (fun mz ρ Γ=>∃(i:Nat) (Ao:OA) (qo:Nat) (O:List (Int×Int)),ρ=[(6,vs Ao O qo),(25,vs As ps cp),(26,nv ps.length),(27,nv i)]∧Γ=[ros Tb.cells As ps,De Be (ps.map Tb.ar),rows Be 142 2 Ao qo O]∧mz=ps.length-i∧(i≤ps.length)∧(O=cat (ps.take i))) (ps.length-0) ⟨⟨0,Ag,qg,([]:List (Int×Int)),rfl,rfl,rfl,(aEw _),rfl⟩,sb⟩ ?_)
 rintro mz _ _ ⟨i,Ao,qo,O,rfl,rfl,rfl,hi2,hO⟩
 refine Jz 6 ?_
 refine Jcp rfl ?_ ?_<;>intro c28
 obtain⟨y,hy⟩:=exg ps i om
 refine Jz 11 ?_
 have hcs:=sU hy
 have hcl:=KQ ps (i+1)
 have hcl2:(cat (ps.take (i+1))).length=(cat (ps.take i)).length+y.l.length:=by rw[hcs,lap]
 have hOl:O.length+y.l.length≤1000000:=by rw[hO];omega
 refine rV 1 rfl (Ou hy Tb.ar) (Jz 3 ?_)
 refine Jge rfl rfl rfl (Hf Eu (i:=3) (m:=y.l) rfl s52 rfl rfl rfl (Ya (i:=0) rfl) om om) ?_
 rintro _ _ ⟨A33,q33,rfl,rfl⟩
 refine Jz 9 ?_
 refine Ce [1,1,1] rfl (Vb (ps.length-(i+1)) om ⟨⟨i+1,A33,q33,(O++y.l),rfl,rfl,rfl,om,(by rw[hO,hcs])⟩,sb⟩)
 refine Jz 12 ?_
 refine Ce [2] rfl (Je1 results189 ?_)
 exact⟨_,_,by rw[hO,aEm om],by rw[hO,aEm om]⟩
theorem fB(A:OA)(ca:Nat)(l:List (Int×Int))(k v:Int)(hl:l.length≤1000)(hca:l.length≤ca)(ha:Asc l):
    Dz 187 [.agg #[vs A l ca],iv k,iv v] [ros Be A l] (fun r Γ'=>∃B q,r= .agg #[.slice B (Jp l k v).length q]∧(Jp l k v).length≤q∧Γ'=[ros Be B (Jp l k v)]):=by
 refine Am func187 ntmps187 fun w0=>?_
 refine Js (To.g (Jbo fun b3=>?_))
 refine Jal fun b6=>?_
 refine Jz 6 ?_
 refine Jvf (iX A ca l k om ha) rfl (ocs (oca 2 rfl) (ocn _)) ?_
 refine Jz 11 ?_
 refine JgB ?_ ?_<;>intro g17
 obtain⟨y,hy,hyk,hg⟩:=wY ha g17
 have hnl:=(aEc.1 hy).1
 refine Jz 11 ?_
 refine Jcp rfl ?_ ?_<;>intro c26
 refine Jz 8 ?_
 refine Tm [2] rfl (.inl rfl) results187 rfl (i:=0) rfl r54 rfl ?_
 have hsm:Jp l k v=l:=sS ha (by rw[hg,c26])
 exact⟨A,ca,by rw[hsm],by rw[hsm];exact hca,by rw[hsm]⟩
 refine Jz 3 ?_
 have hlo:=Yg k l
 refine Jz 4 ?_
 refine Jr (Cr (v':= .slice (Hr A ca (Cs l k) 2) (l.drop (Cs l k)).length (ca-Cs l k)) (congrArg (fun z=>Value.slice (Hr A ca (Cs l k) 2) z (ca-Cs l k)) (by rw[aFk])) (Mh (lo:=Cs l k) rfl s52 rfl rfl om)) ?_
 refine Jz 9 ?_
 refine Ed rfl ?_ ?_<;>intro c32
 refine Jz 2 ?_
 refine Jr (Cr (v':= .slice (Hr (Hr A ca (Cs l k) 2) (ca-Cs l k) 1 2) ((l.drop (Cs l k)).drop 1).length ((ca-Cs l k)-1)) (congrArg (fun z=>Value.slice (Hr (Hr A ca (Cs l k) 2) (ca-Cs l k) 1 2) z ((ca-Cs l k)-1)) (aFk).symm) (Mh (lo:=1) rfl s52 rfl rfl (by rw[aFk];omega))) ?_
 refine Jz 8 ?_
 refine Jr (Cr (v':= .slice A (l.take (Cs l k)).length ca) (congrArg (fun z=>Value.slice A z ca) (by rw[aEe];omega)) (Eo (hi:=Cs l k) rfl s52 rfl rfl om)) ?_
 refine Jz 2 ?_
 refine Jr (.bd [iv k,iv v]) ?_
 refine Eg [iv k,iv v] fun b42=>?_
 have hlo:=Yg k l
 refine bJ Eu ca (Cs l k) 3 rfl hca om (bJ Eu (ca-Cs l k) 1 0 rfl (by rw[aFk];omega) (by rw[aFk];omega) (To.take (Cs l k) 5 rfl (Jas [ros Be A (l.take (Cs l k)),ros Be (Hr (Hr A ca (Cs l k) 2) (ca-Cs l k) 1 2) ((l.drop (Cs l k)).drop 1),ros Be (Hr A ca (Cs l k) 2) (l.drop (Cs l k)),rows Be 142 2 (some ⟨b42,0,none⟩) 1 [(k,v)],box b6 [nz] 54,box b3 [vs A l ca] 54,ros Be A l] rfl (Ic (Cq (dC (enc:=Be) (La ([(⟨A,ca,l.take (Cs l k)⟩:Tb),(⟨(some ⟨b42,0,none⟩),1,[(k,v)]⟩:Tb),(⟨(Hr (Hr A ca (Cs l k) 2) (ca-Cs l k) 1 2),((ca-Cs l k)-1),((l.drop (Cs l k)).drop 1)⟩:Tb)].map Tb.ar) 0 rfl (fun p hp=> .inr ?_) ?_)))))))
 · simp only[aFn,List.map_nil,aEi,aEs,or_false]at hp
   rcases hp with rfl|rfl|rfl<;>simp[Tb.ar]
 refine Jm ?_
 refine Eg [vs A (l.take (Cs l k)) ca, .slice (some ⟨b42,0,none⟩) 1 1,vs (Hr (Hr A ca (Cs l k) 2) (ca-Cs l k) 1 2) ((l.drop (Cs l k)).drop 1) ((ca-Cs l k)-1)] fun b44=>?_
 refine Jqf (bM (some ⟨b44,0,none⟩) 3 [(⟨A,ca,l.take (Cs l k)⟩:Tb),(⟨(some ⟨b42,0,none⟩),1,[(k,v)]⟩:Tb),(⟨(Hr (Hr A ca (Cs l k) 2) (ca-Cs l k) 1 2),((ca-Cs l k)-1),((l.drop (Cs l k)).drop 1)⟩:Tb)] (by simp) (by simp only[cat,aFf,List.flatMap_nil,lap,aEe,aFk,lc1,ln0];omega)) rfl (ocs (Ht 0 rfl) (ocs (oca 1 rfl) (ocn _))) ?_
 rintro _ _ ⟨Bc,qc,rfl,rfl⟩
 refine⟨rfl,?_⟩
 refine Jr (.bd [vs Bc (cat [(⟨A,ca,l.take (Cs l k)⟩:Tb),(⟨(some ⟨b42,0,none⟩),1,[(k,v)]⟩:Tb),(⟨(Hr (Hr A ca (Cs l k) 2) (ca-Cs l k) 1 2),((ca-Cs l k)-1),((l.drop (Cs l k)).drop 1)⟩:Tb)]) qc]) ?_
 refine Jz 4 ?_
 have hfin:cat [(⟨A,ca,l.take (Cs l k)⟩:Tb),(⟨(some ⟨b42,0,none⟩),1,[(k,v)]⟩:Tb),(⟨(Hr (Hr A ca (Cs l k) 2) (ca-Cs l k) 1 2),((ca-Cs l k)-1),((l.drop (Cs l k)).drop 1)⟩:Tb)]=Jp l k v:=by
  rw[pK ha,aEh g17]
  simp[cat]
 refine Lt (p:=(cat [(⟨A,ca,l.take (Cs l k)⟩:Tb),(⟨(some ⟨b42,0,none⟩),1,[(k,v)]⟩:Tb),(⟨(Hr (Hr A ca (Cs l k) 2) (ca-Cs l k) 1 2),((ca-Cs l k)-1),((l.drop (Cs l k)).drop 1)⟩:Tb)]).length≤qc) (fun w hw=>Mw 0 rfl hw) (fun hqc=>?_)
 refine Cq (Tm [0] rfl (.inl rfl) results187 rfl (i:=8) rfl r54 rfl ?_)
 exact⟨Bc,qc,by rw[←hfin],by rw[←hfin];exact hqc,by rw[←hfin]⟩
 rw[g17]at c32;cases c32
 refine Jz 15 ?_
 have hlo:=Yg k l
 refine Jz 4 ?_
 refine Jr (Cr (v':= .slice (Hr A ca (Cs l k) 2) (l.drop (Cs l k)).length (ca-Cs l k)) (congrArg (fun z=>Value.slice (Hr A ca (Cs l k) 2) z (ca-Cs l k)) (by rw[aFk])) (Mh (lo:=Cs l k) rfl s52 rfl rfl om)) ?_
 refine Jz 9 ?_
 refine Ed rfl ?_ ?_<;>intro c32
 rw[g17]at c32;cases c32
 refine Jz 7 ?_
 refine Jr (Cr (v':= .slice A (l.take (Cs l k)).length ca) (congrArg (fun z=>Value.slice A z ca) (by rw[aEe];omega)) (Eo (hi:=Cs l k) rfl s52 rfl rfl om)) ?_
 refine Jz 2 ?_
 refine Jr (.bd [iv k,iv v]) ?_
 refine Eg [iv k,iv v] fun b42_2=>?_
 have hlo:=Yg k l
 refine bJ Eu ca (Cs l k) 3 rfl hca om (To.take (Cs l k) 4 rfl (Jas [ros Be A (l.take (Cs l k)),ros Be (Hr A ca (Cs l k) 2) (l.drop (Cs l k)),rows Be 142 2 (some ⟨b42_2,0,none⟩) 1 [(k,v)],box b6 [nz] 54,box b3 [vs A l ca] 54,ros Be A l] rfl (Jj (Cq (dC (enc:=Be) (La ([(⟨A,ca,l.take (Cs l k)⟩:Tb),(⟨(some ⟨b42_2,0,none⟩),1,[(k,v)]⟩:Tb),(⟨(Hr A ca (Cs l k) 2),(ca-Cs l k),(l.drop (Cs l k))⟩:Tb)].map Tb.ar) 0 rfl (fun p hp=> .inr ?_) ?_))))))
 · simp only[aFn,List.map_nil,aEi,aEs,or_false]at hp
   rcases hp with rfl|rfl|rfl<;>simp[Tb.ar]
 refine Jm ?_
 refine Eg [vs A (l.take (Cs l k)) ca, .slice (some ⟨b42_2,0,none⟩) 1 1,vs (Hr A ca (Cs l k) 2) (l.drop (Cs l k)) (ca-Cs l k)] fun b44_2=>?_
 refine Jqf (bM (some ⟨b44_2,0,none⟩) 3 [(⟨A,ca,l.take (Cs l k)⟩:Tb),(⟨(some ⟨b42_2,0,none⟩),1,[(k,v)]⟩:Tb),(⟨(Hr A ca (Cs l k) 2),(ca-Cs l k),(l.drop (Cs l k))⟩:Tb)] (by simp) (by simp only[cat,aFf,List.flatMap_nil,lap,aEe,aFk,lc1,ln0];omega)) rfl (ocs (Ht 0 rfl) (ocs (oca 1 rfl) (ocn _))) ?_
 rintro _ _ ⟨Bc,qc,rfl,rfl⟩
 refine⟨rfl,?_⟩
 refine Jr (.bd [vs Bc (cat [(⟨A,ca,l.take (Cs l k)⟩:Tb),(⟨(some ⟨b42_2,0,none⟩),1,[(k,v)]⟩:Tb),(⟨(Hr A ca (Cs l k) 2),(ca-Cs l k),(l.drop (Cs l k))⟩:Tb)]) qc]) ?_
 refine Jz 4 ?_
 have hfin:cat [(⟨A,ca,l.take (Cs l k)⟩:Tb),(⟨(some ⟨b42_2,0,none⟩),1,[(k,v)]⟩:Tb),(⟨(Hr A ca (Cs l k) 2),(ca-Cs l k),(l.drop (Cs l k))⟩:Tb)]=Jp l k v:=by
  rw[pK ha,aEa (by rw[g17];decide)]
  simp[cat]
 refine Lt (p:=(cat [(⟨A,ca,l.take (Cs l k)⟩:Tb),(⟨(some ⟨b42_2,0,none⟩),1,[(k,v)]⟩:Tb),(⟨(Hr A ca (Cs l k) 2),(ca-Cs l k),(l.drop (Cs l k))⟩:Tb)]).length≤qc) (fun w hw=>Mw 0 rfl hw) (fun hqc=>?_)
 refine Cq (Tm [0] rfl (.inl rfl) results187 rfl (i:=7) rfl r54 rfl ?_)
 exact⟨Bc,qc,by rw[←hfin],by rw[←hfin];exact hqc,by rw[←hfin]⟩
theorem AR(A:OA)(ca:Nat)(l:List (Int×Int))(k:Int)(hl:l.length≤1000)(hca:l.length≤ca)(ha:Asc l):
    Dz 162 [.agg #[vs A l ca],iv k] [ros Be A l] (fun r Γ'=>∃B q,r= .agg #[.slice B (Im l k).length q]∧(Im l k).length≤q∧Γ'=[ros Be B (Im l k)]):=by
 refine Am func162 ntmps162 fun w0=>?_
 refine Js (To.g (Jbo fun b2=>?_))
 refine Jal fun b4=>?_
 refine Jz 6 ?_
 refine Jvf (iX A ca l k om ha) rfl (ocs (oca 2 rfl) (ocn _)) ?_
 refine Jz 14 ?_
 refine Ed rfl ?_ ?_<;>intro c14
 refine Jz 8 ?_
 refine Tm [2] rfl (.inl rfl) results162 rfl (i:=0) rfl r54 rfl ?_
 have hsm:Im l k=l:=by rw[pM ha,aEa (by simpa using c14)]
 exact⟨A,ca,by rw[hsm],by rw[hsm];exact hca,by rw[hsm]⟩
 refine Jz 3 ?_
 have his:(Fp l k).isSome=true:=by simpa using c14
 obtain⟨y,hy,hyk,hg⟩:=wY ha his
 have hnl:=(aEc.1 hy).1
 have hlo:=Yg k l
 refine bJ Eu ca (Cs l k+1) 2 rfl hca om (To.take (Cs l k) 3 rfl (dC (enc:=Be) (La ([(⟨A,ca,l.take (Cs l k)⟩:Tb),(⟨(Hr A ca (Cs l k+1) 2),(ca-(Cs l k+1)),(l.drop (Cs l k+1))⟩:Tb)].map Tb.ar) 0 rfl (fun p hp=> .inr ?_) ?_)))
 · simp only[aFn,List.map_nil,aEi,aEs,or_false]at hp
   rcases hp with rfl|rfl<;>simp[Tb.ar]
 refine Pp [] [⟨0,[],0⟩,⟨2,[],0⟩,⟨4,[],0⟩,⟨6,[],0⟩,⟨7,[],0⟩,⟨1,[],1⟩,⟨3,[],0⟩,⟨5,[],1⟩,⟨8,[],0⟩,⟨9,[],2⟩,⟨10,[9],4⟩,⟨11,[9,10],0⟩,⟨12,[9,10],5⟩] mixed.h (by kernel_rfl) (ocn _) (Jz 6 ?_)
 refine Fw.f rfl (Cr (v':= .slice A (l.take (Cs l k)).length ca) (congrArg (fun z=>Value.slice A z ca) (by rw[aEe];omega)) (Eo (hi:=Cs l k) rfl s52 rfl rfl om)) ?_
 refine Jz 1 ?_
 refine Fw.f rfl (Cr (v':= .slice (Hr A ca (Cs l k+1) 2) (l.drop (Cs l k+1)).length (ca-(Cs l k+1))) (congrArg (fun z=>Value.slice (Hr A ca (Cs l k+1) 2) z (ca-(Cs l k+1))) (by rw[aFk])) (Mh (lo:=Cs l k+1) rfl s52 rfl rfl om)) ?_
 refine Es [vs A (l.take (Cs l k)) ca,vs (Hr A ca (Cs l k+1) 2) (l.drop (Cs l k+1)) (ca-(Cs l k+1))] fun b25=>?_
 refine Gj rfl rfl rfl rfl rfl .fc (bM (some ⟨b25,0,none⟩) 2 [(⟨A,ca,l.take (Cs l k)⟩:Tb),(⟨(Hr A ca (Cs l k+1) 2),(ca-(Cs l k+1)),(l.drop (Cs l k+1))⟩:Tb)] (by simp) (by simp only[cat,aFf,List.flatMap_nil,lap,aEe,aFk,lc1,ln0];omega)) rfl (ocs (Ht 0 rfl) (ocs (oca 1 rfl) (ocn _))) ?_
 rintro _ _ ⟨Bc,qc,rfl,rfl⟩
 refine⟨rfl,?_⟩
 refine Fw.f rfl (.bd [vs Bc (cat [(⟨A,ca,l.take (Cs l k)⟩:Tb),(⟨(Hr A ca (Cs l k+1) 2),(ca-(Cs l k+1)),(l.drop (Cs l k+1))⟩:Tb)]) qc]) ?_
 refine Fw.up rfl rfl rfl (Bl (i:=6) rfl rfl rfl r54 rfl rfl rfl (bta rfl)) (ocn _) ?_
 refine Jz 3 ?_
 have hfin:cat [(⟨A,ca,l.take (Cs l k)⟩:Tb),(⟨(Hr A ca (Cs l k+1) 2),(ca-(Cs l k+1)),(l.drop (Cs l k+1))⟩:Tb)]=Im l k:=by
  rw[pM ha,aEh his]
  simp[cat]
 refine Lt (p:=(cat [(⟨A,ca,l.take (Cs l k)⟩:Tb),(⟨(Hr A ca (Cs l k+1) 2),(ca-(Cs l k+1)),(l.drop (Cs l k+1))⟩:Tb)]).length≤qc) (fun w hw=>Mw 0 rfl hw) (fun hqc=>?_)
 refine Cq (Tm [0] rfl (.inl rfl) results162 rfl (i:=6) rfl r54 rfl ?_)
 exact⟨Bc,qc,by rw[←hfin],by rw[←hfin];exact hqc,by rw[←hfin]⟩
theorem RA(b:Nat)(s:Sm)(d:Dm)(k v:Int)(hg:Good d.dk.l)(hq:d.dk.l.length≤d.dk.q):
    Dz 160 [.pointer (some ⟨b,2,none⟩),iv k,iv v] [box b (cD s d) 123,ros Be d.dk.A d.dk.l] (fun r Γ'=>r= .tuple #[]∧∃t:Tb,Γ'=[box b (mc s {d with dk:=t}) 123,ros Be t.A t.l]∧t.l=Oq d.dk.l k v∧t.l.length≤t.q):=by
 refine Am func160 ntmps160 fun w0=>?_
 refine Jz 4 ?_
 refine Jr (Ij (i:=0) (us:=[vs d.dk.A d.dk.l d.dk.q]) rfl rfl r54 rfl (Fh (n:=1) rfl) rfl) ?_
 refine Jm ?_
 refine Jvf (Zz d.dk.A d.dk.q d.dk.l k (by have:=hg.len;omega) hg.asc) rfl (ocs (oca 1 rfl) (ocn _)) ?_
 refine Jz 10 ?_
 refine JgB ?_ ?_<;>intro g17
 refine Jz 13 ?_
 refine Jr (Ij (i:=0) (us:=[vs d.dk.A d.dk.l d.dk.q]) rfl rfl r54 rfl (Fh (n:=1) rfl) rfl) ?_
 refine Jz 2 ?_
 refine Jcf [1] (fB d.dk.A d.dk.q d.dk.l k v (by have:=hg.len;omega) hq hg.asc) ?_
 rintro _ _ ⟨Bp,qp,rfl,hqp,rfl⟩
 refine Jnc ?_
 refine To.u (Bl (i:=1) rfl rfl rfl r54 rfl rfl rfl (Rf (ds:=[vs d.Av d.vars d.qv,vs d.At d.tabs d.qt,vs Bp (Jp d.dk.l k v) qp,vs d.Ae d.effs d.qe,iv d.cost,vs s.Ac s.code s.qc,vs s.Aa s.args s.qa,iv s.now,vs s.Ag s.flags s.qg,iv s.dsk,vs s.Af s.fail s.qf,vs d.As d.stack d.qs,iv d.next,iv d.sends,iv d.disks, .bool d.fault]) rfl rfl)) ?_
 refine Jn (Le (Co (.inr rfl) results160 ?_))
 exact⟨rfl,⟨Bp,qp,Jp d.dk.l k v⟩,rfl,(by unfold Oq;rw[aEh (.inl g17)]),hqp⟩
 refine Jz 2 ?_
 refine Jr (Ij (i:=0) (us:=[vs d.dk.A d.dk.l d.dk.q]) rfl rfl r54 rfl (Fh (n:=1) rfl) rfl) ?_
 refine Jvf (pO d.dk.A d.dk.l.length d.dk.q) rfl (ocn _) ?_
 refine Jz 4 ?_
 refine Jcp rfl ?_ ?_<;>intro c23
 refine Jz 4 ?_
 refine Jr (Ij (i:=0) (us:=[vs d.dk.A d.dk.l d.dk.q]) rfl rfl r54 rfl (Fh (n:=1) rfl) rfl) ?_
 refine Jz 2 ?_
 refine Jcf [1] (fB d.dk.A d.dk.q d.dk.l k v (by have:=hg.len;omega) hq hg.asc) ?_
 rintro _ _ ⟨Bp,qp,rfl,hqp,rfl⟩
 refine Jnc ?_
 refine To.u (Bl (i:=1) rfl rfl rfl r54 rfl rfl rfl (Rf (ds:=[vs d.Av d.vars d.qv,vs d.At d.tabs d.qt,vs Bp (Jp d.dk.l k v) qp,vs d.Ae d.effs d.qe,iv d.cost,vs s.Ac s.code s.qc,vs s.Aa s.args s.qa,iv s.now,vs s.Ag s.flags s.qg,iv s.dsk,vs s.Af s.fail s.qf,vs d.As d.stack d.qs,iv d.next,iv d.sends,iv d.disks, .bool d.fault]) rfl rfl)) ?_
 refine Jn (Le (Co (.inr rfl) results160 ?_))
 exact⟨rfl,⟨Bp,qp,Jp d.dk.l k v⟩,rfl,(by unfold Oq;rw[aEh (.inr om)]),hqp⟩
 refine Jsp (Co (.inr rfl) results160 ?_)
 exact⟨rfl,d.dk,rfl,(by unfold Oq;rw[aEa (by rintro(h|h);exact absurd h (by rw[g17];decide);omega)]),hq⟩
theorem EP{α:Type}{l:List α}{j:Nat}{x:α}(hx:l[j]?=some x):l.set j x=l:=by
 apply List.ext_getElem?
 intro i
 by_cases h:j=i
 ·subst h;rw[List.getElem?_set_self (aEc.1 hx).1,hx]
 ·rw[List.getElem?_set_ne h]
theorem RB(At:OA)(qt:Nat)(T:List Tb)(j:Nat)(x:Tb)(hx:T[j]?=some x)(k v:Int)(hg:Good x.l)(hq:x.l.length≤x.q):
    Dz 160 [.pointer (some ⟨blk At,ofs At+j*1,none⟩),iv k,iv v] [rows Tb.cells 54 1 At qt T,ros Be x.A x.l] (fun r Γ'=>r= .tuple #[]∧∃t:Tb,Γ'=[rows Tb.cells 54 1 At qt (T.set j t),ros Be t.A t.l]∧t.l=Oq x.l k v∧t.l.length≤t.q):=by
 have hjl:j<T.length:=(aEc.1 hx).1
 refine Am func160 ntmps160 fun w0=>?_
 refine Jz 6 ?_
 refine Jvf (Zz x.A x.q x.l k (by have:=hg.len;omega) hg.asc) rfl (ocs (oca 1 rfl) (ocn _)) ?_
 refine Jz 10 ?_
 refine JgB ?_ ?_<;>intro g17
 refine Jz 16 ?_
 refine Jcf [1] (fB x.A x.q x.l k v (by have:=hg.len;omega) hq hg.asc) ?_
 rintro _ _ ⟨Bp,qp,rfl,hqp,rfl⟩
 refine Jnc ?_
 refine To.u (Bl (i:=1) (us:=Tb.cells (⟨Bp,qp,(Jp x.l k v)⟩:Tb)) rfl rfl rfl r54 (Nf.len _) rfl rfl (Ee Nf (by decide) om)) ?_
 refine Jn (Le (Co (.inr rfl) results160 ?_))
 exact⟨rfl,⟨Bp,qp,Jp x.l k v⟩,rfl,(by unfold Oq;rw[aEh (.inl g17)]),hqp⟩
 refine Jz 3 ?_
 refine Jvf (pO x.A x.l.length x.q) rfl (ocn _) ?_
 refine Jz 4 ?_
 refine Jcp rfl ?_ ?_<;>intro c23
 refine Jz 7 ?_
 refine Jcf [1] (fB x.A x.q x.l k v (by have:=hg.len;omega) hq hg.asc) ?_
 rintro _ _ ⟨Bp,qp,rfl,hqp,rfl⟩
 refine Jnc ?_
 refine To.u (Bl (i:=1) (us:=Tb.cells (⟨Bp,qp,(Jp x.l k v)⟩:Tb)) rfl rfl rfl r54 (Nf.len _) rfl rfl (Ee Nf (by decide) om)) ?_
 refine Jn (Le (Co (.inr rfl) results160 ?_))
 exact⟨rfl,⟨Bp,qp,Jp x.l k v⟩,rfl,(by unfold Oq;rw[aEh (.inr om)]),hqp⟩
 refine Jsp (Co (.inr rfl) results160 ?_)
 exact⟨rfl,x,by rw[EP hx],(by unfold Oq;rw[aEa (by rintro(h|h);exact absurd h (by rw[g17];decide);omega)]),hq⟩
theorem RD(a:Int):
    Dz 157 [iv a] [] (fun v _=>v= .bool false):=by
 refine Am func157 ntmps157 fun w0=>?_
 refine Jz 14 ?_
 refine Je1 results157 ?_
 simp
theorem RF(a:Int):
    Dz 186 [iv a] [] (fun v _=>v= .bool false):=by
 refine Am func186 ntmps186 fun w0=>?_
 refine Jz 14 ?_
 refine Je1 results186 ?_
 simp
theorem sV(a b:Int):
    Dz 106 [iv a,iv b] [] (fun v _=>v= .bool (decide (a<b))):=by
 refine Am func106 ntmps106 fun w0=>?_
 refine Jz 8 ?_
 refine Jvf (RD a) rfl (ocn _) ?_
 refine Jz 14 ?_
 refine Je1 results106 ?_
 rfl
theorem RG(A:OA)(cap:Nat)(l:List Int)(hl:l.length≤12):
    Dz 100 [vs A l cap,iv 0,nv l.length] [rows aLz 3 1 A cap l] (fun v Γ'=>v= .tuple #[]∧Γ'=[rows aLz 3 1 A cap (Ev Jb l)]):=by
 refine Am func100 ntmps100 fun w0=>?_
 refine Jz 3 ?_
 refine Jr (Hl rfl rfl rfl om) ?_
 refine Jz 4 ?_
 refine Ce [0] rfl (Jas [rows aLz 3 1 A cap (Ev Jb (l.take 1)++l.drop 1)] (by rw[Wp]<;>rfl) (Ie (fun mz ρ Γ=>∃(i:Nat),ρ=[(0,vs A (Ev Jb (l.take i)++l.drop i) cap),(1,iv 0),(2,nv l.length),(6,nv i)]∧Γ=[rows aLz 3 1 A cap (Ev Jb (l.take i)++l.drop i)]∧mz=l.length-i∧(1≤i∧(i≤l.length∨l.length=0))) (l.length-1) ⟨⟨1,rfl,rfl,rfl,om⟩,⟨(congrArg (fun n:Nat=>some (Value.slice A n cap)) (congrArg List.length (Wp l).symm)),rfl,rfl,rfl,trivial⟩⟩ ?_))
 rintro mz _ _ ⟨i,rfl,rfl,rfl,hi⟩
 refine Jz 8 ?_
 refine Jcp rfl ?_ ?_<;>intro c12
 refine Jz 11 ?_
 obtain⟨x,hx⟩:=exg l i om
 have hlen:(Ev Jb (l.take i)).length=i:=by rw[Mt,aEe];omega
 have hd0:=dog hx
 refine Ce [0] rfl (Jas [rows aLz 3 1 A cap ((Ev Jb (l.take i))++x::([]++l.drop (i+1)))] (by rw[hd0];rfl) (Ie (fun mz ρ Γ=>∃(p:List Int) (q:List Int),ρ=[(0,vs A (p++x::(q++l.drop (i+1))) cap),(1,iv 0),(2,nv l.length),(6,nv i),(7,nv p.length)]∧Γ=[rows aLz 3 1 A cap (p++x::(q++l.drop (i+1)))]∧mz=p.length∧(Ev Jb (l.take i)=p++q)∧(∀z∈q,Jb x z<0)) ((Ev Jb (l.take i)).length) ⟨⟨(Ev Jb (l.take i)),[],rfl,rfl,rfl,((aEz _).symm),(fun z hz=>absurd hz aEs)⟩,⟨(congrArg (fun n:Nat=>some (Value.slice A n cap)) (congrArg (fun d=>(Ev Jb (l.take i)++d).length) hd0)),rfl,rfl,rfl,(congrArg (fun n:Nat=>some (iv (n:Int))) hlen.symm),trivial⟩⟩ ?_))
 rintro mz _ _ ⟨p,q,rfl,rfl,rfl,hpq,hq⟩
 have hln:(p++x::(q++l.drop (i+1))).length=l.length:=by
  have h1:=congrArg List.length hpq
  rw[Mt,aEe,lap]at h1
  simp only[lap,lc1,aFk];omega
 have hpi:p.length<l.length:=by rw[←hln];simp only[lap,lc1];omega
 refine Js (Js ?_)
 have hgx:(p++x::(q++l.drop (i+1)))[p.length]?=some x:=zD _ _ _
 refine Jfw [] [0,1,2,3,4,5,8,9,10,106,107,111,112,313,14] (ocn _) ?_
 refine Jz 3 ?_
 refine gT rfl rfl rfl rfl (Rd.move rfl rfl) (fun g19=>?_) (fun g19=>?_)
 have hpp:0<p.length:=om
 obtain⟨p',y,hp⟩:=cO hpp
 have hgy:(p++x::(q++l.drop (i+1)))[p.length-1]?=some y:=by rw[hp];simp
 refine Jz 4 ?_
 refine Fw.f rfl (Cr (v':=nv (p.length-1)) (congrArg iv om) (Gi rfl rfl rfl om)) ?_
 refine Jz 4 ?_
 refine Fw.qf (sV x y) (ocn _) ?_
 refine Jz 3 ?_
 refine Jcp rfl ?_ ?_<;>intro c30
 have hxy:=Ze.2 c30
 refine Jz 4 ?_
 have hl2:((p++x::(q++l.drop (i+1))).set p.length y).length=l.length:=by rw[aEj];exact hln
 refine Lt (p:=A=some ⟨blk A,ofs A,none⟩) (fun w hw=>Oe Cy (by decide) (l:=(p++x::(q++l.drop (i+1)))) (by rw[hln];omega) 0 rfl hw) (fun hA=>?_)
 refine Jfw [] [0,1,2,3,4,5,6,7,8,10,11,12,109,113,14,515,16,517] (ocn _) ?_
 refine Jz 4 ?_
 refine Fw.f rfl (Cr (v':=nv (p.length-1)) (congrArg iv om) (Gi rfl rfl rfl om)) ?_
 refine Jz 2 ?_
 refine Fw.f rfl (Cr (v':=nv (p.length-1)) (congrArg iv om) (Gi rfl rfl rfl om)) ?_
 refine Fw.f rfl (Dg (j:=(p.length-1)) hA rfl rfl rfl s62 (by rw[hln];omega)) ?_
 refine Jz 2 ?_
 refine Fw.f rfl (Dg (j:=p.length) hA rfl rfl rfl s62 (by rw[hln];omega)) ?_
 refine Jz 2 ?_
 refine Fw.f rfl (Dg (j:=p.length) hA rfl rfl rfl s62 (by rw[hln];omega)) ?_
 refine Fw.up rfl rfl rfl (Up.store (i:=0) rfl rfl rfl c3 rfl rfl (Ee Cy (y:=y) (by decide) om)) (ocn _) ?_
 refine Fw.f rfl (Dg (j:=(p.length-1)) hA rfl rfl rfl s62 (by rw[hln];omega)) ?_
 refine Fw.up rfl rfl rfl (Up.store (i:=0) rfl rfl rfl c3 rfl rfl (Ee Cy (y:=x) (by decide) om)) (ocn _) ?_
 refine Jz 5 ?_
 refine Jr (Cr (v':=nv (p.length-1)) (congrArg iv om) (Gi rfl rfl rfl om)) ?_
 refine Jz 3 ?_
 have hsw:=rQ p' (q++l.drop (i+1)) x y
 have hpl:p.length-1=p'.length:=by rw[hp];simp
 refine Ot [(0,vs A (p'++x::((y::q)++l.drop (i+1))) cap),(1,iv 0),(2,nv l.length),(6,nv i),(7,nv p'.length)] ⟨(congrArg (fun n:Nat=>some (Value.slice A n cap)) (by rw[hp];simp)),rfl,rfl,rfl,(congrArg (fun n:Nat=>some (iv (n:Int))) hpl),trivial⟩ (Ce [0] rfl (Jas [rows aLz 3 1 A cap (p'++x::((y::q)++l.drop (i+1)))] (by rw[hpl,hp];rw[hsw];rfl) ?_))
 refine Jag (p'.length) (by rw[hp];simp) ⟨p',(y::q),rfl,rfl,rfl,(by rw[hpq,hp];simp),(fun z hz=>by
  rcases aEi.1 hz with rfl|hz
  ·exact hxy
  ·exact hq z hz)⟩
 have hstop:p.length=0∨∀z,p.getLast?=some z→¬Jb x z<0:= .inr (fun z hz=>by rw[hp]at hz;simp at hz;subst hz;exact fun h=>c30 (Ze.1 h))
 refine Jz 12 ?_
 have hlast:∀z,p.getLast?=some z→¬Jb x z<0:=fun z hz=>by
  rcases hstop with h0|h0
  ·rw[aFp h0]at hz;simp at hz
  ·exact h0 z hz
 have hnext:(p++x::(q++l.drop (i+1)))=Ev Jb (l.take (i+1))++l.drop (i+1):=by rw[Ud hx hpq hq hlast];simp
 refine Ce [0] rfl (Jas [rows aLz 3 1 A cap (Ev Jb (l.take (i+1))++l.drop (i+1))] (by rw[hnext]<;>rfl) (Vb (l.length-(i+1)) om ⟨⟨i+1,rfl,rfl,rfl,om⟩,⟨(congrArg (fun n:Nat=>some (Value.slice A n cap)) (congrArg List.length hnext)),rfl,rfl,rfl,trivial⟩⟩))
 have hstop:p.length=0∨∀z,p.getLast?=some z→¬Jb x z<0:= .inl om
 refine Jz 26 ?_
 have hlast:∀z,p.getLast?=some z→¬Jb x z<0:=fun z hz=>by
  rcases hstop with h0|h0
  ·rw[aFp h0]at hz;simp at hz
  ·exact h0 z hz
 have hnext:(p++x::(q++l.drop (i+1)))=Ev Jb (l.take (i+1))++l.drop (i+1):=by rw[Ud hx hpq hq hlast];simp
 refine Ce [0] rfl (Jas [rows aLz 3 1 A cap (Ev Jb (l.take (i+1))++l.drop (i+1))] (by rw[hnext]<;>rfl) (Vb (l.length-(i+1)) om ⟨⟨i+1,rfl,rfl,rfl,om⟩,⟨(congrArg (fun n:Nat=>some (Value.slice A n cap)) (congrArg List.length hnext)),rfl,rfl,rfl,trivial⟩⟩))
 refine Jz 4 ?_
 refine Co (.inr rfl) results100 ?_
 exact⟨rfl,by rw[show l.take i=l from aEm om,aFh om,aEz]⟩
theorem RH(A:OA)(cap:Nat)(l:List Int)(hl:l.length≤12)(k:Int):
    Dz 61 [vs A l cap,iv 0,nv l.length,iv k] [rows aLz 3 1 A cap l] (fun v Γ'=>v= .tuple #[]∧Γ'=[rows aLz 3 1 A cap (Ev Jb l)]):=by
 refine Am func61 ntmps61 fun w0=>?_
 refine Jz 11 ?_
 refine bG (Jz 5 ?_)
 refine Jr (Gi rfl rfl rfl om) ?_
 refine Jz 10 ?_
 refine Jcp rfl ?_ ?_<;>intro c23
 refine Jz 5 ?_
 refine Jcf [0] (RG A cap l hl) ?_
 rintro _ _ ⟨rfl,rfl⟩
 refine Jz 7 ?_
 refine Co (.inl rfl) results61 ?_
 exact⟨rfl,rfl⟩
 exfalso;omega
theorem KR(A:OA)(cap:Nat)(l:List Int)(hl:l.length≤12):
    Dz 34 [vs A l cap] [rows aLz 3 1 A cap l] (fun v Γ'=>v= .tuple #[]∧Γ'=[rows aLz 3 1 A cap (Ev Jb l)]):=by
 refine Am func34 ntmps34 fun w0=>?_
 refine Jz 11 ?_
 refine Jr (Fv rfl rfl underlying3 underlying205 (JC om)) ?_
 refine Jqf (QO l.length om) rfl (ocn _) ?_
 rintro _ _ ⟨k1,rfl,rfl⟩
 refine⟨rfl,?_⟩
 refine Jcf [0] (RH A cap l hl k1) ?_
 rintro _ _ ⟨rfl,rfl⟩
 refine Jn (Co (.inr rfl) results34 ?_)
 exact⟨rfl,rfl⟩
abbrev xA(l:List Int):Prop:=l.Pairwise (fun a b=>a≤b)
theorem Yi(l:List Int):xA (Ev Jb l):=(oG rP l).imp fun{a b} h=>by
 unfold Jb at h
 split at h
 ·omega
 ·split at h<;>omega
theorem iY{l:List Int}{x:Int}:x∈Ev Jb l↔x∈l:=(gV l).mem_iff
def Yj:List Int→Int→Nat
 |[],_=>0
 |e::r,k=>if e<k then Yj r k+1 else 0
theorem AU(k:Int):∀l:List Int,Yj l k≤l.length
 |[]=>aEu _
 |e::r=>by rw[Yj];split<;>simp[AU k r]
theorem sW{k:Int}:∀{l:List Int} {h:Nat} {x:Int},xA l→l[h]?=some x→(x<k↔h<Yj l k)
 |[],h,x,_,hx=>by simp at hx
 | e ::r,h,x,ha,hx=>by
   obtain⟨h1,h2⟩:=aFo.1 ha
   rw[Yj]
   cases h with
   | zero=>
     obtain rfl:e=x:=by simpa using hx
     by_cases c:e<k
     ·simp[c]
     ·simp[c]
   | succ h=>
     have hx':r[h]?=some x:=by simpa using hx
     by_cases c:e<k
     ·rw[aEh c,sW h2 hx'];omega
     · rw[aEa c]
       have:=h1 x (mog hx')
       omega
theorem aA{k:Int}:∀{l:List Int},xA l→(k∈l↔l[Yj l k]?=some k)
 |[],_=>by simp
 | e ::r,ha=>by
   obtain⟨h1,h2⟩:=aFo.1 ha
   rw[Yj]
   by_cases c:e<k
   · rw[aEh c,List.getElem?_cons_succ,←aA h2,aEi]
     exact⟨fun h=>h.elim (fun h=>by omega) id, .inr⟩
   · rw[aEa c,List.getElem?_cons_zero,aEi]
     constructor
     · rintro(h|h)
       ·rw[h]
       ·have:=h1 k h;rw[show e=k by omega]
     ·intro h;exact .inl (aEn h).symm
theorem aBf(A:OA)(ca:Nat)(l:List Int)(k:Int)(hl:l.length≤1000000)(ha:xA l):
    Dz 159 [vs A l ca,iv k] [ros aLz A l] (fun v _=>v= .tuple #[nv (Yj l k), .bool (decide (k∈l))]):=by
 refine Am func159 ntmps159 fun w0=>?_
 refine Jz 22 ?_
 refine Ce [0] rfl (Ie (fun mz ρ Γ=>∃(i:Nat) (j:Nat),ρ=[(0,vs A l ca),(1,iv k),(6,nv l.length),(7,nv i),(8,nv j)]∧Γ=[ros aLz A l]∧mz=j-i∧(i≤Yj l k∧Yj l k≤j∧j≤l.length)) (l.length-0) ⟨⟨0,l.length,rfl,rfl,rfl,⟨aEw _,AU _ _,aEu _⟩⟩,sb⟩ ?_)
 rintro mz _ _ ⟨i,j,rfl,rfl,rfl,hij⟩
 refine Jz 8 ?_
 refine Jcp rfl ?_ ?_<;>intro c15
 refine Jz 7 ?_
 refine Jr (Ns (a:=i) (b:=j) rfl rfl rfl om) ?_
 refine Jr (Fv rfl rfl underlying3 underlying205 (JC om)) ?_
 refine Jr (eT (a:=(i+j)) (j:=1) rfl rfl rfl (by simp only[IntKind.bits];omega)) ?_
 refine Jr (Fv rfl rfl underlying205 underlying3 (IntWalk.i64_in _ om)) ?_
 refine Jz 4 ?_
 have hm1:i≤(i+j)/2^1∧(i+j)/2^1<j:=om
 obtain⟨x,hx⟩:∃z0,l[((i+j)/2^1)]?=some z0:=⟨l[((i+j)/2^1)]'om,gge _⟩
 have hcm:x<k↔(i+j)/2^1<Yj l k:=sW ha hx
 refine Jz 3 ?_
 refine Jr (Yb Cy (i:=0) (j:=((i+j)/2^1)) rfl rfl rfl s62 rfl hx) ?_
 refine Jz 2 ?_
 refine Jvf (sV x k) rfl (ocn _) ?_
 refine Jn (Jt (Jcp rfl (fun c27=>?_) (fun c27=>?_)))
 refine Jz 7 ?_
 refine Ce [0] rfl (Vb (j-(((i+j)/2^1)+1)) om ⟨⟨((i+j)/2^1)+1,j,rfl,rfl,rfl,om⟩,sb⟩)
 refine Jz 6 ?_
 refine Ce [0] rfl (Vb (((i+j)/2^1)-i) om ⟨⟨i,((i+j)/2^1),rfl,rfl,rfl,om⟩,sb⟩)
 refine Jz 6 ?_
 obtain rfl:i=Yj l k:=om
 refine Ot [(0,vs A l ca),(1,iv k),(6,nv l.length),(7,nv ((Yj l k)))] sb (Jz 5 ?_)
 refine JgP ?_ ?_<;>intro g35
 obtain⟨x,hx⟩:∃z0,l[(Yj l k)]?=some z0:=⟨l[(Yj l k)]'om,gge _⟩
 refine Jz 6 ?_
 refine JgP ?_ ?_<;>intro g42
 refine Jz 16 ?_
 refine Gc (.inl rfl) results159 rfl rfl ?_
 show Value.tuple #[_,_]=Value.tuple #[_,_]
 have hmm:k∈l↔x=k:=by rw[aA ha,hx];exact⟨aEn,fun h=>by rw[h]⟩
 by_cases hk:x=k
 ·rw[show decide (k∈l)=true from aEk (hmm.2 hk)];first|done|simp_all
 ·rw[show decide (k∈l)=false from aEo fun h=>hk (hmm.1 h)];first|done|simp_all
 refine Jz 4 ?_
 refine Jvf (RF x) rfl (ocn _) ?_
 refine Jz 11 ?_
 refine Gc (.inl rfl) results159 rfl rfl ?_
 show Value.tuple #[_,_]=Value.tuple #[_,_]
 have hmm:k∈l↔x=k:=by rw[aA ha,hx];exact⟨aEn,fun h=>by rw[h]⟩
 by_cases hk:x=k
 ·rw[show decide (k∈l)=true from aEk (hmm.2 hk)];first|done|simp_all
 ·rw[show decide (k∈l)=false from aEo fun h=>hk (hmm.1 h)];first|done|simp_all
 refine Jz 23 ?_
 refine Gc (.inl rfl) results159 rfl rfl ?_
 show Value.tuple #[_,_]=Value.tuple #[_,_]
 rw[show decide (k∈l)=false from aEo fun h=>by rw[aA ha,List.getElem?_eq_none om]at h;cases h]
end Go.Proofs.YtlihklladkagpaaGreatDoor

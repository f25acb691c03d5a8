/- Own text. -/
import Derived.Test.YtihgdnjkofpgiaaGreatDoorQe
import Derived.Test.YtihgdnjkofpgiaaGreatDoorYa
set_option maxHeartbeats 8000000
set_option maxRecDepth 100000
set_option linter.unusedVariables false
set_option linter.unusedSimpArgs false
namespace Go.Proofs.YtihgdnjkofpgiaaGreatDoor
open Go.Proofs.Tryz
open Go.RowKit Go.Flow Go.Mem Go.Sep Go.In
def zV:Vr:=⟨nE,0,0⟩
def zC:Cm:=⟨nE,none,0,[],none,0,[]⟩
def zH:Hd:=⟨nE,none,0,[],none,0,[]⟩
theorem oC{α:Type}{p:α→Bool}{l:List α}{k:Nat}{x:α}(h:l[k]?=some x)(hp:p x=true):(l.drop k).find? p=some x:=by
 obtain⟨hk,he⟩:=aOz.1 h;rw[aRm hk,he,List.find?_cons_of_pos hp]
theorem wM{α:Type}{p:α→Bool}{l:List α}{k:Nat}{x:α}(h:l[k]?=some x)(hp:¬p x=true):(l.drop k).find? p=(l.drop (k+1)).find? p:=by
 obtain⟨hk,he⟩:=aOz.1 h;rw[aRm hk,he,List.find?_cons_of_neg hp]
theorem oD{α:Type}{p:α→Bool}{l:List α}{k:Nat}(h:l.length≤k):(l.drop k).find? p=none:=by rw[List.drop_of_length_le h];rfl
theorem GI{l:List yB}{s:yB}{k:Nat}(h:l[k]?=some s):ixF s k (l.drop k)=some k:=by
 obtain⟨hk,he⟩:=aOz.1 h;rw[aRm hk,he,ixF,aPr rfl]
theorem VQ{l:List yB}{s x:yB}{k:Nat}(h:l[k]?=some x)(hp:x≠s):ixF s k (l.drop k)=ixF s (k+1) (l.drop (k+1)):=by
 obtain⟨hk,he⟩:=aOz.1 h;rw[aRm hk,he,ixF,aPf hp]
theorem GJ{l:List yB}{s:yB}{k:Nat}(h:l.length≤k):ixF s k (l.drop k)=none:=by rw[List.drop_of_length_le h];rfl
theorem Dl{P:pG}{o:Oper}{ρ:Bo}{Γ:List Ad}{x y:Operand}{t t':tI}{a b:yB}(ho:o.op= .binOp .add t x y t')(hx:ev ρ x=some (.string a))(hy:ev ρ y=some (.string b))(hl:a.size+b.size≤140737488355328):Rd P o ρ Γ (.string (a++b)):=fw ho hx hy fun w=>by
 simp[eqGuard,binOp,Op.stringOp];omega
theorem KI(o:oP Nat):decide (0≤oI o)=o.isSome:=by cases o<;>simp[oI]
theorem kE(A:OA)(q:Nat)(l:List Vr)(s:yB)(o:oP Vr)(hl:l.length≤12)(ho:l.find? (fun x:Vr=>decide (x.name=s))=o):
    Dz 129 [vs A l q, .string s] [ros Hg A l] (fun v _=>v= .tuple #[.agg (Hg (o.getD zV)).toArray, .bool o.isSome]):=by
 refine Ba func129 ntmps129 fun w0=>?_;refine Js (dh (ay fun b4=>?_));refine Jz 12 ?_;refine Jh (fun u g mz ρ Γ=>∃(k:Nat),ρ=[u 4,u 1,u 8,u 9,(10,nv k)]∧Γ=[g 0,g 1]∧mz=l.length-k∧(k≤l.length)∧((l.drop k).find? (fun x:Vr=>decide (x.name=s))=o)) ⟨⟨0,rfl,rfl,rfl,om,ho⟩,sb⟩ ?_;rintro mz _ _ ⟨k,rfl,rfl,rfl,hk,ho⟩;refine Jz 6 ?_;refine ax rfl ?_ ?_<;>intro c11;obtain⟨y,hy⟩:=bq l k om;refine Jz 8 ?_;refine ay fun b7=>?_;refine Jz 8 ?_;refine Jr (Ky rfl rfl rfl) ?_;refine Jn (Jt (ax rfl (fun c17=>?_) (fun c17=>?_)));refine Jz 13 ?_;refine Jy [] rfl (.inl rfl) results129 rfl (i:=1) rfl r92 rfl rfl ?_;rw[show o=some y from by rw[←ho];exact oC hy (by simpa using c17)];rfl;refine Jz 8 ?_;refine Bp ⟨⟨k+1,rfl,rfl,rfl,om,(by rw[←wM hy (by simpa using c17)];exact ho)⟩,sb⟩;refine Jz 7 ?_;refine Jr (.bd [.string bE,ui 0,iv 0]) ?_;refine Jz 5 ?_;refine Jy [] rfl (.inl rfl) results129 rfl (i:=0) rfl r92 rfl rfl ?_;rw[show o=none from by rw[←ho];exact oD om];rfl
theorem AB(A:OA)(q:Nat)(l:List Cm)(s:yB)(o:oP Cm)(hl:l.length≤12)(ho:l.find? (fun x:Cm=>decide (x.name=s))=o):
    Dz 126 [vs A l q, .string s] [ros Gm A l] (fun v _=>v= .tuple #[.agg (Gm (o.getD zC)).toArray, .bool o.isSome]):=by
 refine Ba func126 ntmps126 fun w0=>?_;refine Js (dh (ay fun b4=>?_));refine Jz 12 ?_;refine Jh (fun u g mz ρ Γ=>∃(k:Nat),ρ=[u 4,u 1,u 8,u 9,(10,nv k)]∧Γ=[g 0,g 1]∧mz=l.length-k∧(k≤l.length)∧((l.drop k).find? (fun x:Cm=>decide (x.name=s))=o)) ⟨⟨0,rfl,rfl,rfl,om,ho⟩,sb⟩ ?_;rintro mz _ _ ⟨k,rfl,rfl,rfl,hk,ho⟩;refine Jz 6 ?_;refine ax rfl ?_ ?_<;>intro c11;obtain⟨y,hy⟩:=bq l k om;refine Jz 8 ?_;refine ay fun b7=>?_;refine Jz 8 ?_;refine Jr (Ky rfl rfl rfl) ?_;refine Jn (Jt (ax rfl (fun c17=>?_) (fun c17=>?_)));refine Jz 13 ?_;refine Jy [] rfl (.inl rfl) results126 rfl (i:=1) rfl NK rfl rfl ?_;rw[show o=some y from by rw[←ho];exact oC hy (by simpa using c17)];rfl;refine Jz 8 ?_;refine Bp ⟨⟨k+1,rfl,rfl,rfl,om,(by rw[←wM hy (by simpa using c17)];exact ho)⟩,sb⟩;refine Jz 7 ?_;refine Jr (.bd [.string bE,nz,nz]) ?_;refine Jz 5 ?_;refine Jy [] rfl (.inl rfl) results126 rfl (i:=0) rfl NK rfl rfl ?_;rw[show o=none from by rw[←ho];exact oD om];rfl
def fdH(l:List Vs)(s:yB):oP Hd:=(l.flatMap Vs.l).find? (fun x:Hd=>decide (x.name=s))
theorem VR(v:Vs)(r:List Vs)(s:yB):fdH (v::r) s=(v.l.find? (fun x:Hd=>decide (x.name=s))).or (fdH r s):=by
 unfold fdH;rw[aQq,List.find?_append]
theorem VS{l:List Vs}{k:Nat}{v:Vs}{s:yB}(h:l[k]?=some v):fdH (l.drop k) s=(v.l.find? (fun x:Hd=>decide (x.name=s))).or (fdH (l.drop (k+1)) s):=by
 obtain⟨hk,he⟩:=aOz.1 h;rw[aRm hk,he,VR]
theorem aCo{l:List Vs}{k:Nat}{s:yB}(h:l.length≤k):fdH (l.drop k) s=none:=by rw[List.drop_of_length_le h];rfl
theorem AJ{l:List Vs}{k:Yj}{v:Vs}{i:Nat}(h:l[i]?=some v):ros Ii v.A v.l∈l.flatMap (Vs.kids k):=aQe.2 ⟨v,av h,aPc ..⟩
theorem oF(A:OA)(q:Nat)(l:List Vs)(s:yB)(o:oP Hd)(hl:l.length≤12)(hl3:∀v∈l,v.l.length≤3)(ho:fdH l s=o):
    Dz 130 [vs A l q, .string s] [ros Fq A l,all (l.flatMap (Vs.kids eX))] (fun v Γ'=>v= .tuple #[.agg (Ii (o.getD zH)).toArray, .bool o.isSome]∧Γ'=[]):=by
 refine Ba func130 ntmps130 fun w0=>?_;refine Js (dh (ay fun b4=>?_));refine Jz 12 ?_;refine Jh (fun u g mz ρ Γ=>∃(k:Nat),ρ=[u 4,u 1,u 10,u 11,(12,nv k)]∧Γ=[g 0,g 1,g 2]∧mz=l.length-k∧(k≤l.length)∧(fdH (l.drop k) s=o)) ⟨⟨0,rfl,rfl,rfl,om,ho⟩,sb⟩ ?_;rintro mz _ _ ⟨k,rfl,rfl,rfl,hk,ho⟩;refine Jz 6 ?_;refine ax rfl ?_ ?_<;>intro c13;obtain⟨v,hv⟩:=bq l k om;have hvl:=hl3 v (av hv);refine Jz 8 ?_;refine ay fun b7=>?_;refine Jz 4 ?_;refine bz 3 rfl (ros Ii v.A v.l) rfl (AJ hv) (Jz 8 ?_);refine Bz (fun u g mz ρ Γ=>∃(j:Nat),ρ=[u 4,u 1,u 10,u 11,u 12,u 17,u 18,(19,nv j)]∧Γ=[g 2,g 3,g 4,g 0]∧mz=v.l.length-j∧(j≤v.l.length)∧((v.l.drop j).find? (fun x:Hd=>decide (x.name=s))=v.l.find? (fun x:Hd=>decide (x.name=s)))) ⟨⟨0,rfl,rfl,rfl,om,rfl⟩,sb⟩ ?_;rintro mz _ _ ⟨j,rfl,rfl,rfl,hj,hj0⟩;refine Jz 6 ?_;refine ax rfl ?_ ?_<;>intro c20;obtain⟨y,hy⟩:=bq v.l j om;refine Jz 8 ?_;refine ay fun b9=>?_;refine Jz 8 ?_;refine Jr (Ky rfl rfl rfl) ?_;refine Jn (Jt (ax rfl (fun c26=>?_) (fun c26=>?_)));refine Jz 17 ?_;refine Jy [] rfl (.inl rfl) results130 rfl (i:=1) rfl NL rfl rfl ?_;rw[show o=some y from by rw[←ho,VS hv,←hj0,oC hy (by simpa using c26)];rfl];exact⟨rfl,rfl⟩;refine Jz 8 ?_;refine Bp ⟨⟨j+1,rfl,rfl,rfl,om,(by rw[←wM hy (by simpa using c26)];exact hj0)⟩,sb⟩;refine Jz 11 ?_;refine Bp ⟨⟨k+1,rfl,rfl,rfl,om,(by rw[VS hv,show v.l.find? (fun x:Hd=>decide (x.name=s))=none from by rw[←hj0];exact oD om]at ho;exact ho)⟩,sb⟩;refine Jz 7 ?_;refine Jr (.bd [.string bE,nz,nz]) ?_;refine Jz 5 ?_;refine Jy [] rfl (.inl rfl) results130 rfl (i:=0) rfl NL rfl rfl ?_;rw[show o=none from by rw[←ho];exact aCo om];exact⟨rfl,rfl⟩
theorem GK(A:OA)(q:Nat)(l:List Vs)(s:yB)(h:Hd)(hl:l.length≤12)(hl3:∀v∈l,v.l.length≤3)(ho:fdH l s=some h):Dz 130 [vs A l q, .string s] [ros Fq A l,all (l.flatMap (Vs.kids eX))] (fun v Γ'=>v= .tuple #[.agg (Ii h).toArray,bt]∧Γ'=[]):=oF A q l s (some h) hl hl3 ho
theorem oG(A:OA)(q:Nat)(l:List Cm)(s:yB)(c:Cm)(hl:l.length≤12)(ho:l.find? (fun x:Cm=>decide (x.name=s))=some c):Dz 126 [vs A l q, .string s] [ros Gm A l] (fun v _=>v= .tuple #[.agg (Gm c).toArray,bt]):=AB A q l s (some c) hl ho
theorem La(A:OA)(q:Nat)(l:List yB)(s:yB)(o:oP Nat)(hl:l.length≤12)(ho:ixF s 0 l=o):
    Dz 87 [vs A l q, .string s] [ros Dc A l] (fun v _=>v=iv (oI o)):=by
 refine Ba func87 ntmps87 fun w0=>?_;refine Jz 14 ?_;refine Jh (fun u g mz ρ Γ=>∃(k:Nat),ρ=[u 0,u 1,u 6,u 7,(8,nv k)]∧Γ=[g 0]∧mz=l.length-k∧(k≤l.length)∧(ixF s k (l.drop k)=o)) ⟨⟨0,rfl,rfl,rfl,om,ho⟩,sb⟩ ?_;rintro mz _ _ ⟨k,rfl,rfl,rfl,hk,ho⟩;refine Jz 6 ?_;refine ax rfl ?_ ?_<;>intro k9;obtain⟨y,hy⟩:=bq l k om;refine Jz 17 ?_;refine Jr (Ky rfl rfl rfl) ?_;refine Jn (Jt (ax rfl (fun k16=>?_) (fun k16=>?_)));refine Jz 12 ?_;refine bv results87 ?_;rw[show o=some k from by rw[←ho];exact GI (by rw[k16];exact hy)];rfl;refine Jz 8 ?_;refine Db ⟨⟨k+1,rfl,rfl,rfl,om,(by rw[←VQ hy (fun e=>k16 e.symm)];exact ho)⟩,sb⟩;refine Jz 11 ?_;refine bv results87 ?_;rw[show o=none from by rw[←ho];exact GJ om];rfl
theorem Tx(A:OA)(q:Nat)(l:List yB)(s:yB)(o:oP Nat)(hl:l.length≤12)(ho:ixF s 0 l=o):
    Dz 86 [vs A l q, .string s] [ros Dc A l] (fun v _=>v= .bool o.isSome):=by
 refine Ba func86 ntmps86 fun w0=>?_;refine Jz 9 ?_;refine Jvf (La A q l s o hl ho) rfl (ag (au 0 rfl) (af _)) ?_;refine Jr (Cn (v':= .bool o.isSome) (aPe Value.bool (KI o)) (Rd.geq rfl rfl rfl)) ?_;refine Jz 4 ?_;refine bv results86 ?_;rfl
theorem VT(b:Nat)(s:yB)(x:Fg):
    Dz 178 [.agg (Gh x).toArray,pv b] [ro (some ⟨b,0,none⟩) [.string s]] (fun v _=>v= .bool (decide (x.name=s))):=by
 refine Ba func178 ntmps178 fun w0=>?_;refine Js (dh (Jbo fun b2=>?_));refine Jz 7 ?_;refine Jr (Cu (i:=1) rfl rfl c9 rfl (Eb (A:=some ⟨b,0,none⟩) (o:=0) (k:=1) rfl)) ?_;refine Jr (Ky rfl rfl rfl) ?_;refine Jz 4 ?_;refine bv results178 ?_;rfl
theorem OU(b:Nat)(A:OA)(q:Nat)(l:List Fg)(s:yB)(o:oP Nat)(hl:l.length≤12)(ho:ixF s 0 (l.map Fg.name)=o):
    Dz 220 [vs A l q, .func (.func 178) #[] #[pv b]] [ros Gh A l,ro (some ⟨b,0,none⟩) [.string s]] (fun v _=>v=iv (oI o)):=by
 refine Ba func220 ntmps220 fun w0=>?_;refine Jz 14 ?_;refine Jh (fun u g mz ρ Γ=>∃(k:Nat),ρ=[u 0,u 1,u 6,u 7,(8,nv k)]∧Γ=[g 0,g 1]∧mz=l.length-k∧(k≤l.length)∧(ixF s k ((l.map Fg.name).drop k)=o)) ⟨⟨0,rfl,rfl,rfl,om,ho⟩,sb⟩ ?_;rintro mz _ _ ⟨k,rfl,rfl,rfl,hk,ho⟩;refine Jz 6 ?_;refine ax rfl ?_ ?_<;>intro k9;obtain⟨y,hy⟩:=bq l k om;refine Jz 17 ?_;refine JcV rfl rfl rfl (dn (first:=[]) (captured:=[pv b]) rfl rfl rfl (kc.h 178 rfl)) (VT b s y) rfl (ag (au 1 rfl) (af _)) (Jn (Jt (ax rfl (fun k16=>?_) (fun k16=>?_))));refine Jz 12 ?_;refine bv results220 ?_;rw[show o=some k from by rw[←ho];exact GI (by rw[aPs,hy,←k16];rfl)];rfl;refine Jz 8 ?_;refine Db ⟨⟨k+1,rfl,rfl,rfl,om,(by rw[←VQ (x:=y.name) (by rw[aPs,hy];rfl) k16];exact ho)⟩,sb⟩;refine Jz 11 ?_;refine bv results220 ?_;rw[show o=none from by rw[←ho];exact GJ (by rw[aPg];omega)];rfl
theorem wN(b:Nat)(A:OA)(q:Nat)(l:List Fg)(s:yB)(o:oP Nat)(hl:l.length≤12)(ho:ixF s 0 (l.map Fg.name)=o):
    Dz 177 [vs A l q, .func (.func 178) #[] #[pv b]] [ros Gh A l,ro (some ⟨b,0,none⟩) [.string s]] (fun v _=>v= .bool o.isSome):=by
 refine Ba func177 ntmps177 fun w0=>?_;refine Jz 9 ?_;refine Jvf (OU b A q l s o hl ho) rfl (ag (au 0 rfl) (ag (au 1 rfl) (af _))) ?_;refine Jr (Cn (v':= .bool o.isSome) (aPe Value.bool (KI o)) (Rd.geq rfl rfl rfl)) ?_;refine Jz 4 ?_;refine bv results177 ?_;rfl
theorem Uu(A:OA)(q:Nat)(l:List Fg)(s:yB)(o:oP Nat)(hl:l.length≤12)(ho:ixF s 0 (l.map Fg.name)=o):
    Dz 125 [vs A l q, .string s] [ros Gh A l] (fun v _=>v= .bool o.isSome):=by
 refine Ba func125 ntmps125 fun w0=>?_;refine Js (dh (Jbo fun b3=>?_));refine Jz 4 ?_;refine Zd (Jz 2 ?_);refine Jr (Rd.makeFunc rfl rfl rfl) ?_;refine Jvf (wN b3 A q l s o hl ho) rfl (ag (au 1 rfl) (ag (au 0 rfl) (af _))) ?_;refine Jz 4 ?_;refine bv results125 ?_;rfl
theorem gP(b:Nat)(F:Fl)(w n:yB):
    Dz 82 [pv b,iv 0, .string n] [box b (cF F [.string w, .string nE, .string nE,iv 0]) 192] (fun v Γ'=>v=bt∧Γ'=[box b (cF F [.string w, .string nE, .string nE,iv 0]) 192]):=by
 refine Ba func82 ntmps82 fun w0=>?_;refine Jz 35 ?_;refine bv results82 ?_;exact⟨rfl,rfl⟩
theorem sG(b:Nat)(F:Fl)(w n:yB):
    Dz 123 [pv b, .string n] [box b (cF F [.string w, .string nE, .string nE,iv 0]) 192] (fun v Γ'=>v=bt∧Γ'=[box b (cF F [.string n, .string nE, .string nE,iv 0]) 192]):=by
 refine Ba func123 ntmps123 fun w0=>?_;refine Jz 26 ?_;refine bv results123 ?_;exact⟨rfl,rfl⟩
theorem Hm(b:Nat)(F:Fl)(w n:yB)(e:Int):
    Dz 124 [pv b,bt,iv e, .string n] [box b (cF F [.string w, .string nE, .string nE,iv 0]) 192] (fun v Γ'=>v=bt∧Γ'=[box b (cF F [.string w, .string nE, .string nE,iv 0]) 192]):=by
 refine Ba func124 ntmps124 fun w0=>?_;refine Jz 21 ?_;refine az [0] (gP b F w n) ?_;rintro _ _ ⟨rfl,rfl⟩;refine Jz 4 ?_;refine bv results124 ?_;exact⟨rfl,rfl⟩
theorem OV(b:Nat)(z x:Lk):
    Dz 127 [.agg (Jv x).toArray,pv b] [ro (some ⟨b,0,none⟩) [.string z.src, .string z.dst,iv z.lat]] (fun v _=>v= .bool (decide (x.src=z.src)&&decide (x.dst=z.dst))):=by
 refine Ba func127 ntmps127 fun w0=>?_;refine Js (dh (Jbo fun b2=>?_));refine Jz 8 ?_;refine Jr (Cu (i:=1) rfl rfl c9 rfl (Eb (A:=some ⟨b,0,none⟩) (o:=0) (k:=1) rfl)) ?_;refine Jr (Ky rfl rfl rfl) ?_;refine JgP ?_ ?_<;>intro g9;refine Jz 3 ?_;refine Jr (Cu (i:=1) rfl rfl c9 rfl (Eb (A:=some ⟨b,0,none⟩) (o:=1) (k:=1) rfl)) ?_;refine Jr (Ky rfl rfl rfl) ?_;refine Jz 5 ?_;refine bv results127 ?_;simp[*];refine Jz 10 ?_;refine bv results127 ?_;simp[*]
theorem OW(b:Nat)(z:Lk)(A:OA)(q:Nat)(l:List Lk)(hl:l.length≤12)(hn:∀y∈l,¬(y.src=z.src∧y.dst=z.dst)):
    Dz 179 [vs A l q, .func (.func 127) #[] #[pv b]] [ros Jv A l,ro (some ⟨b,0,none⟩) [.string z.src, .string z.dst,iv z.lat]] (fun v _=>v=iv (-1)):=by
 refine Ba func179 ntmps179 fun w0=>?_;refine Jz 14 ?_;refine Jh (fun s g mz ρ Γ=>∃(k:Nat),ρ=[s 0,s 1,s 6,s 7,(8,nv k)]∧Γ=[g 0,g 1]∧mz=l.length-k∧(k≤l.length)) ⟨⟨0,rfl,rfl,rfl,om⟩,sb⟩ ?_;rintro mz _ _ ⟨k,rfl,rfl,rfl,hk⟩;refine Jz 6 ?_;refine ax rfl ?_ ?_<;>intro k9;obtain⟨y,hy⟩:=bq l k om;refine Jz 17 ?_;refine JcV rfl rfl rfl (dn (first:=[]) (captured:=[pv b]) rfl rfl rfl (kc.h 127 rfl)) (OV b z y) rfl (ag (au 1 rfl) (af _)) (Jn (Jt (Ej rfl (fun k16=>?_) (fun k16=>?_))));exact aPu (by simpa using k16) (hn y (av hy));refine Jz 8 ?_;refine Db ⟨⟨k+1,rfl,rfl,rfl,om⟩,sb⟩;refine Jz 11 ?_;refine bv results179 ?_;rfl
theorem wO(b:Nat)(z:Lk)(A:OA)(q:Nat)(l:List Lk)(hl:l.length≤12)(hn:∀y∈l,¬(y.src=z.src∧y.dst=z.dst)):
    Dz 128 [vs A l q, .func (.func 127) #[] #[pv b]] [ros Jv A l,ro (some ⟨b,0,none⟩) [.string z.src, .string z.dst,iv z.lat]] (fun v _=>v=bf):=by
 refine Ba func128 ntmps128 fun w0=>?_;refine Jz 9 ?_;refine Jvf (OW b z A q l hl hn) rfl (ag (au 0 rfl) (ag (au 1 rfl) (af _))) ?_;refine Jz 5 ?_;refine bv results128 ?_;rfl
structure Scp where
 Af:OA
 qf:Nat
 flags:List Fg
 Av:OA
 qv:Nat
 vars:List Vr
 Ap:OA
 qp:Nat
 ps:List yB
def fdV(l:List Vr)(s:yB):oP Vr:=l.find? (fun x:Vr=>decide (x.name=s))
def fdC(l:List Cm)(s:yB):oP Cm:=l.find? (fun x:Cm=>decide (x.name=s))
structure Scp.Low(σ:Scp):Prop where
 f:σ.flags.length≤2
 v:σ.vars.length≤5
 p:σ.ps.length≤2
def Scp.Nm(σ:Scp)(s:yB)(t:Nat):Prop:=((ixF s 0 σ.ps).isSome=true∧t=1)∨((ixF s 0 σ.ps).isSome=false∧∃v,fdV σ.vars s=some v∧v.ty≠3∧t=v.ty)∨((ixF s 0 σ.ps).isSome=false∧fdV σ.vars s=none∧(ixF s 0 (σ.flags.map Fg.name)).isSome=true∧t=2)
def Scp.Ch(σ:Scp)(s:yB)(t:Nat):Prop:=(ixF s 0 σ.ps).isSome=false∧∃v,fdV σ.vars s=some v∧v.ty=t
structure OpT(σ:Scp)(o:Nat)(s:yB)(u t:Nat):Prop where
 ar:1≤o∧o≤23∧u≤2∧t≤2∧(o=1∨o=4→t=1)∧(o=2∨o=3→t=2)∧(o=8→t=1)∧(o=16∨o=17→t=2)∧(o=10∨o=22∨o=23→u=2∧t=2)∧(18≤o∧o≤21→u=1∧t=2)∧(o=7→u=1∧t=2)∧(o=6∨o=9∨11≤o∧o≤15→u=1∧t=1)
 nm:o=5→σ.Nm s t
 tb:o=6∨o=7∨o=8→σ.Ch s 3
mutual
def PE.Ty(σ:Scp):PE→Nat→Prop
 |⟨o,s,_,l⟩,t=>∃u,Ot σ l u∧(l.length=0→u=0)∧OpT σ o s u t
def Ot(σ:Scp):List PE→Nat→Prop
 |[],_=>True
 |e::r,u=>PE.Ty σ e u∧Ot σ r u
end
theorem oH{σ:Scp}:∀{l:List PE} {u:Nat},Ot σ l u→∀x∈l,x.Ty σ u
 |[],_,_,x,h=>by cases h
 | e::r,u,h,x,hx=>by
   rcases aPi.1 hx with rfl|hx
   ·exact h.1
   ·exact oH h.2 x hx
theorem gQ{σ:Scp}{u:Nat}:∀{l:List PE},(∀x∈l,x.Ty σ u)→Ot σ l u
 |[],_=>trivial
 |e::r,h=>⟨h e (aPc ..),gQ fun x hx=>h x (aPb _ hx)⟩
theorem sH{σ:Scp}{u:Nat}{l:List Ex}(h:Ot σ (Cv l) u){x:Ex}(hx:x∈l):x.pure.Ty σ u:=oH h x.pure (by rw[Bj];exact aPx.2 ⟨x,hx,rfl⟩)
theorem VU{σ:Scp}{t:Nat}{e:Ex}(h:e.pure.Ty σ t):∃u,(Ot σ (Cv e.args) u)∧(e.args.length=0→u=0)∧OpT σ e.op e.name u t:=by
 rw[Et]at h;obtain⟨u,h1,h2,h3⟩:=h;exact⟨u,h1,fun h=>h2 (by rw[Bj,aPg];exact h),h3⟩
theorem KJ(σ:Scp)(hσ:σ.Low)(s:yB)(t:Nat)(h:σ.Ch s t):
    Dz 248 [.agg #[vs σ.Af σ.flags σ.qf,vs σ.Av σ.vars σ.qv,vs σ.Ap σ.ps σ.qp], .string s] [ros Hg σ.Av σ.vars,ros Dc σ.Ap σ.ps] (fun v Γ'=>∃w:Vr,v= .tuple #[.agg (Hg w).toArray,bt]∧Γ'=[]∧w.ty=t):=by
 refine Ba func248 ntmps248 fun w0=>?_;refine Js (dh (Jbo fun b2=>?_));refine ay fun b4=>?_;refine Jz 9 ?_;refine Jvf (Tx σ.Ap σ.qp σ.ps s _ (by have:=hσ.p;omega) rfl) rfl (ag (au 3 rfl) (af _)) ?_;refine Jn (Jt (Ej rfl (fun k9=>?_) (fun k9=>?_)));exact aPu (k9.symm.trans h.1) de;refine Jz 7 ?_;refine Jvf (kE σ.Av σ.qv σ.vars s _ (by have:=hσ.v;omega) rfl) rfl (ag (au 2 rfl) (af _)) ?_;refine Jz 7 ?_;refine Jy [] rfl (.inl rfl) results248 rfl (i:=0) rfl r92 rfl rfl ?_;obtain⟨_,w,hw,ht⟩:=h;rw[show List.find? (fun x:Vr=>decide (x.name=s)) σ.vars=some w from hw];exact⟨w,rfl,rfl,ht⟩
theorem VV(σ:Scp)(hσ:σ.Low)(s:yB)(t:Nat)(h:σ.Nm s t):
    Dz 259 [.agg #[vs σ.Af σ.flags σ.qf,vs σ.Av σ.vars σ.qv,vs σ.Ap σ.ps σ.qp], .string s] [ros Gh σ.Af σ.flags,ros Hg σ.Av σ.vars,ros Dc σ.Ap σ.ps] (fun v _=>v= .tuple #[ub t,iv 0]):=by
 refine Ba func259 ntmps259 fun w0=>?_;refine Js (dh (Jbo fun b2=>?_));refine Jz 10 ?_;refine Jvf (Tx σ.Ap σ.qp σ.ps s _ (by have:=hσ.p;omega) rfl) rfl (ag (au 3 rfl) (af _)) ?_;refine Jn (Jt (Ej rfl (fun k11=>?_) (fun k11=>?_)));refine Jz 8 ?_;refine Eo (.inl rfl) results259 rfl rfl ?_;unfold Scp.Nm fdV at h;generalize List.find? (fun x:Vr=>decide (x.name=s)) σ.vars=o2 at*;cases o2<;>simp_all<;>omega;refine Jz 7 ?_;refine Jvf (kE σ.Av σ.qv σ.vars s _ (by have:=hσ.v;omega) rfl) rfl (ag (au 2 rfl) (af _)) ?_;refine Jz 3 ?_;refine ay fun b6=>?_;refine Jz 9 ?_;refine JgB ?_ ?_<;>intro g21;refine Jz 7 ?_;refine ax rfl ?_ ?_<;>intro k19;refine Jz 9 ?_;refine Eo (.inl rfl) results259 rfl rfl ?_;unfold Scp.Nm fdV at h;generalize List.find? (fun x:Vr=>decide (x.name=s)) σ.vars=o2 at*;cases o2<;>simp_all<;>omega;refine Jz 6 ?_;refine Ej rfl ?_ ?_<;>intro k26;refine Jz 11 ?_;refine Eo (.inl rfl) results259 rfl rfl ?_;unfold Scp.Nm fdV at h;generalize List.find? (fun x:Vr=>decide (x.name=s)) σ.vars=o2 at*;cases o2<;>simp_all<;>omega;refine Jz 5 ?_;refine Jvf (Uu σ.Af σ.qf σ.flags s _ (by have:=hσ.f;omega) rfl) rfl (ag (au 2 rfl) (af _)) ?_;refine Jz 3 ?_;refine Ej rfl ?_ ?_<;>intro k30;refine Jz 9 ?_;refine Eo (.inl rfl) results259 rfl rfl ?_;unfold Scp.Nm fdV at h;generalize List.find? (fun x:Vr=>decide (x.name=s)) σ.vars=o2 at*;cases o2<;>simp_all<;>omega;refine Jz 10 ?_;refine Eo (.inl rfl) results259 rfl rfl ?_;unfold Scp.Nm fdV at h;generalize List.find? (fun x:Vr=>decide (x.name=s)) σ.vars=o2 at*;cases o2<;>simp_all<;>omega;refine Jz 14 ?_;refine Ej rfl ?_ ?_<;>intro k26;refine Jz 11 ?_;refine Eo (.inl rfl) results259 rfl rfl ?_;unfold Scp.Nm fdV at h;generalize List.find? (fun x:Vr=>decide (x.name=s)) σ.vars=o2 at*;cases o2<;>simp_all<;>omega;refine Jz 5 ?_;refine Jvf (Uu σ.Af σ.qf σ.flags s _ (by have:=hσ.f;omega) rfl) rfl (ag (au 2 rfl) (af _)) ?_;refine Jz 3 ?_;refine Ej rfl ?_ ?_<;>intro k30;refine Jz 9 ?_;refine Eo (.inl rfl) results259 rfl rfl ?_;unfold Scp.Nm fdV at h;generalize List.find? (fun x:Vr=>decide (x.name=s)) σ.vars=o2 at*;cases o2<;>simp_all<;>omega;refine Jz 10 ?_;refine Eo (.inl rfl) results259 rfl rfl ?_;unfold Scp.Nm fdV at h;generalize List.find? (fun x:Vr=>decide (x.name=s)) σ.vars=o2 at*;cases o2<;>simp_all<;>omega
theorem gT(σ:Scp)(hσ:σ.Low)(s:yB)(h:σ.Ch s 3):
    Dz 261 [.agg #[vs σ.Af σ.flags σ.qf,vs σ.Av σ.vars σ.qv,vs σ.Ap σ.ps σ.qp], .string s] [ros Hg σ.Av σ.vars,ros Dc σ.Ap σ.ps] (fun v _=>v=iv 0):=by
 refine Ba func261 ntmps261 fun w0=>?_;refine Js (dh (Jbo fun b2=>?_));refine Jz 7 ?_;refine Jqf (KJ σ hσ s _ h) rfl (ag (au 1 rfl) (ag (au 2 rfl) (af _))) ?_;rintro _ _ ⟨w,rfl,rfl,hw⟩;refine⟨rfl,?_⟩;refine Jz 3 ?_;refine ay fun b5=>?_;refine Jz 18 ?_;refine Jr (Cn (v':=bf) (aPe Value.bool (aQk om)) (Rd.neq rfl rfl rfl)) ?_;refine Jz 13 ?_;refine bv results261 ?_;rfl
theorem Zo(σ:Scp)(s:yB)(t:Nat):
    Dz 260 [.agg #[vs σ.Af σ.flags σ.qf,vs σ.Av σ.vars σ.qv,vs σ.Ap σ.ps σ.qp],ub t, .string s,iv 0] [] (fun v _=>v= .tuple #[ub t, .string nE,iv 0]):=by
 refine Ba func260 ntmps260 fun w0=>?_;refine Js (dh (Jbo fun b4=>?_));refine Jz 24 ?_;refine Nv (.inl rfl) results260 rfl rfl rfl ?_;rfl
theorem GM(σ:Scp)(A:OA)(q:Nat)(l:List Ex)(u:Nat)(ih:∀x∈l,∀t:Nat,x.pure.low→x.pure.Ty σ t→Dz 249 [.agg #[vs σ.Af σ.flags σ.qf,vs σ.Av σ.vars σ.qv,vs σ.Ap σ.ps σ.qp], .agg (Be x).toArray] [all (x.kids Be),ros Gh σ.Af σ.flags,ros Hg σ.Av σ.vars,ros Dc σ.Ap σ.ps] (fun v Γ'=>v= .tuple #[ub t, .string nE,iv 0]∧Γ'=[]))(hl:l.length≤12)(hlow:Kz (Cv l))(hty:Ot σ (Cv l) u)(hu0:l.length=0→u=0):
    Dz 258 [.agg #[vs σ.Af σ.flags σ.qf,vs σ.Av σ.vars σ.qv,vs σ.Ap σ.ps σ.qp],vs A l q] [all (lsF Be A l),ros Gh σ.Af σ.flags,ros Hg σ.Av σ.vars,ros Dc σ.Ap σ.ps] (fun v Γ'=>v= .tuple #[ub u, .string nE,iv 0]∧Γ'=[]):=by
 refine Ba func258 ntmps258 fun w0=>?_;refine Js (dh (Jbo fun b2=>?_));refine Jz 12 ?_;refine bz 1 rfl (ros Be A l) rfl (aPc ..) (Jz 7 ?_);refine Bz (fun s g mz ρ Γ=>∃(tk:Nat) (k:Nat),ρ=[s 2,(4,ub tk),s 7,s 13,s 14,(15,nv k)]∧Γ=[g 1,g 0,g 2,g 3,g 4,g 5]∧mz=l.length-k∧(k≤l.length)∧(k=0→tk=0)∧(0<k→tk=u)) ⟨⟨0,0,rfl,rfl,rfl,om,(fun _=>rfl),(fun h=>aPu h de)⟩,sb⟩ ?_;rintro mz _ _ ⟨tk,k,rfl,rfl,rfl,hk,hk0,hk1⟩;refine Jz 6 ?_;refine ax rfl ?_ ?_<;>intro c16;obtain⟨x,hx⟩:=bq l k om;refine Jz 9 ?_;refine ay fun b9=>?_;refine Jz 5 ?_;refine Cg 3 rfl (x.kids Be) (Ex.lax Be x) (Yo hx) (Jz 3 ?_);refine Jqf (ih x (av hx) u (Mg hlow (av hx)) (sH hty (av hx))) (by show owns (x.kids Be)++[]=[];rw[(Ex.lax Be x).owns];rfl) (ag (au 0 rfl) (ag (au 5 rfl) (ag (au 6 rfl) (ag (au 7 rfl) (af _))))) ?_;rintro _ _ ⟨rfl,rfl⟩;refine⟨rfl,?_⟩;refine Jz 26 ?_;refine ax rfl ?_ ?_<;>intro c32;refine Jz 10 ?_;refine Jr (Cn (v':=bt) (aPe Value.bool (aQg om)) (Rd.eql rfl rfl rfl)) ?_;refine Jz 10 ?_;refine Bp ⟨⟨u,k+1,rfl,rfl,rfl,om,(fun h=>by omega),(fun _=>by omega)⟩,sb⟩;refine Jz 7 ?_;refine Jr (Cn (v':=bt) (aPe Value.bool (aQg om)) (Rd.eql rfl rfl rfl)) ?_;refine Jz 10 ?_;refine Bp ⟨⟨tk,k+1,rfl,rfl,rfl,om,(fun h=>by omega),(fun _=>by omega)⟩,sb⟩;refine Jz 24 ?_;refine Gr (Dr (Da (Ck (Cr (Cq (Nv (.inl rfl) results258 rfl rfl rfl ?_))))));obtain rfl:tk=u:=om;exact⟨rfl,rfl⟩
theorem AL(σ:Scp)(hσ:σ.Low)(e:Ex)(τ u:Nat)(ih:∀x∈e.args,∀t:Nat,x.pure.low→x.pure.Ty σ t→Dz 249 [.agg #[vs σ.Af σ.flags σ.qf,vs σ.Av σ.vars σ.qv,vs σ.Ap σ.ps σ.qp], .agg (Be x).toArray] [all (x.kids Be),ros Gh σ.Af σ.flags,ros Hg σ.Av σ.vars,ros Dc σ.Ap σ.ps] (fun v Γ'=>v= .tuple #[ub t, .string nE,iv 0]∧Γ'=[]))(hal:e.args.length≤2)(hlA:Kz (Cv e.args))(hty:Ot σ (Cv e.args) u)(hu0:e.args.length=0→u=0)(hop:OpT σ e.op e.name u τ):
    Dz 249 [.agg #[vs σ.Af σ.flags σ.qf,vs σ.Av σ.vars σ.qv,vs σ.Ap σ.ps σ.qp], .agg (Be e).toArray] [all (e.kids Be),ros Gh σ.Af σ.flags,ros Hg σ.Av σ.vars,ros Dc σ.Ap σ.ps] (fun v Γ'=>v= .tuple #[ub τ, .string nE,iv 0]∧Γ'=[]):=by
 obtain⟨har,hnm,htb⟩:=hop;refine Ba func249 ntmps249 fun w0=>?_;refine Js (dh (Jbo fun b2=>?_));refine Jbo fun b3=>?_;refine Jz 6 ?_;refine Cg 2 rfl (lsF Be e.A e.args) (Mf _ _ _) (fun c hc=>by rw[Le];exact hc) (Jz 4 ?_);refine Jqf (GM σ e.A e.q e.args u ih om hlA hty hu0) (by show owns (lsF Be e.A e.args)++[]=[];rw[(Mf Be e.A e.args).owns];rfl) (ag (au 0 rfl) (ag (au 4 rfl) (ag (au 5 rfl) (ag (au 6 rfl) (af _))))) ?_;rintro _ _ ⟨rfl,rfl⟩;refine⟨rfl,?_⟩;refine Jz 32 ?_;refine Ra (T:=(Nat)×(Nat)) (fun t=>([(2,pv b2),(3,pv b3),(4,ub u),(7,ub ((t.1))),(8,ub ((t.2)))],[box b2 [vs σ.Af σ.flags σ.qf,vs σ.Av σ.vars σ.qv,vs σ.Ap σ.ps σ.qp] 315,box b3 (Be e) 241,ros Gh σ.Af σ.flags,ros Hg σ.Av σ.vars,ros Dc σ.Ap σ.ps])) (fun t=>((t.1)=u)∧((t.2)=τ)) ?_ ?_;refine Jz 8 ?_;refine ax rfl ?_ ?_<;>intro k23;refine Jsp (Jt (Ll (aPe (fun b=>some (Value.bool b)) (aQg k23)) (Jz 10 ?_)));refine Ko (Gr (Dr (Da (Ck (Cr (Cq (Nv (.inl rfl) results249 rfl rfl rfl ?_)))))));obtain rfl:τ=1:=om;exact⟨rfl,rfl⟩;refine Jz 5 ?_;refine ax rfl ?_ ?_<;>intro k23_2;refine Jz 10 ?_;refine Ko (Gr (Dr (Da (Ck (Cr (Cq (Nv (.inl rfl) results249 rfl rfl rfl ?_)))))));obtain rfl:τ=1:=om;exact⟨rfl,rfl⟩;refine Jz 7 ?_;refine ax rfl ?_ ?_<;>intro k26;refine Jsp (Jt (Ll (aPe (fun b=>some (Value.bool b)) (aQg k26)) (Jz 10 ?_)));refine Ko (Gr (Dr (Da (Ck (Cr (Cq (Nv (.inl rfl) results249 rfl rfl rfl ?_)))))));obtain rfl:τ=2:=om;exact⟨rfl,rfl⟩;refine Jz 5 ?_;refine ax rfl ?_ ?_<;>intro k26_2;refine Jz 10 ?_;refine Ko (Gr (Dr (Da (Ck (Cr (Cq (Nv (.inl rfl) results249 rfl rfl rfl ?_)))))));obtain rfl:τ=2:=om;exact⟨rfl,rfl⟩;refine Jz 6 ?_;refine ax rfl ?_ ?_<;>intro k29;refine Jz 5 ?_;refine Jvf (VV σ hσ e.name τ (hnm om)) rfl (ag (au 4 rfl) (ag (au 5 rfl) (ag (au 6 rfl) (af _)))) ?_;refine Jz 14 ?_;refine Jvf (Zo σ e.name τ) rfl (af _) ?_;refine Jz 11 ?_;refine Ko (Gr (Dr (Da (Ck (Cr (Cq (Nv (.inl rfl) results249 rfl rfl rfl ?_)))))));exact⟨rfl,rfl⟩;refine Jz 6 ?_;refine ax rfl ?_ ?_<;>intro k47;refine Js (Jfw [] [1,4,103,105,306,100,102,307,8,9,10,11,12,13] (af _) ?_);refine Jz 4 ?_;refine Fw.qf (gT σ hσ e.name (htb om)) (ag (au 5 rfl) (ag (au 6 rfl) (af _))) ?_;refine Jz 2 ?_;refine Fw.qf (Zo σ e.name 1) (af _) ?_;refine Jz 11 ?_;refine Ko (Gr (Dr (Da (Ck (Cr (Cq (Nv (.inl rfl) results249 rfl rfl rfl ?_)))))));obtain rfl:τ=1:=om;exact⟨rfl,rfl⟩;refine Jz 7 ?_;refine ax rfl ?_ ?_<;>intro k60;refine Jsp (Jt (Ll (aPe (fun b=>some (Value.bool b)) (aQg k60)) (Jz 7 ?_)));refine Mt (u,2) ⟨om,om⟩;refine Jz 5 ?_;refine ax rfl ?_ ?_<;>intro k60_2;refine Jz 7 ?_;refine Mt (u,2) ⟨om,om⟩;refine Jz 7 ?_;refine ax rfl ?_ ?_<;>intro k64;refine Jsp (Jt (Ll (aPe (fun b=>some (Value.bool b)) (aQg k64)) (Jz 6 ?_)));refine Mt (2,2) ⟨om,om⟩;refine Jz 6 ?_;refine ax rfl ?_ ?_<;>intro k64_2;refine Jsp (Jt (Ll (aPe (fun b=>some (Value.bool b)) (aQg k64_2)) (Jz 6 ?_)));refine Mt (2,2) ⟨om,om⟩;refine Jz 5 ?_;refine ax rfl ?_ ?_<;>intro k64_3;refine Jz 6 ?_;refine Mt (2,2) ⟨om,om⟩;refine Jz 7 ?_;refine ax rfl ?_ ?_<;>intro k68;refine Jsp (Jt (Ll (aPe (fun b=>some (Value.bool b)) (aQg k68)) (Jz 5 ?_)));refine Mt (1,2) ⟨om,om⟩;refine Jz 6 ?_;refine ax rfl ?_ ?_<;>intro k68_2;refine Jsp (Jt (Ll (aPe (fun b=>some (Value.bool b)) (aQg k68_2)) (Jz 5 ?_)));refine Mt (1,2) ⟨om,om⟩;refine Jz 6 ?_;refine ax rfl ?_ ?_<;>intro k68_3;refine Jsp (Jt (Ll (aPe (fun b=>some (Value.bool b)) (aQg k68_3)) (Jz 5 ?_)));refine Mt (1,2) ⟨om,om⟩;refine Jz 6 ?_;refine ax rfl ?_ ?_<;>intro k68_4;refine Jsp (Jt (Ll (aPe (fun b=>some (Value.bool b)) (aQg k68_4)) (Jz 5 ?_)));refine Mt (1,2) ⟨om,om⟩;refine Jz 5 ?_;refine ax rfl ?_ ?_<;>intro k68_5;refine Jz 5 ?_;refine Mt (1,2) ⟨om,om⟩;refine Jz 3 ?_;refine Mt (1,1) ⟨om,om⟩;rintro⟨nd,rs⟩ ⟨hnd,hrs⟩;replace hnd:nd=u:=hnd;replace hrs:rs=τ:=hrs;dsimp only;refine Jz 5 ?_;refine Jr (Cn (v':=bf) (aPe Value.bool (aQk om)) (Rd.neq rfl rfl rfl)) ?_;refine Jz 11 ?_;refine JgP ?_ ?_<;>intro g80;refine Jz 8 ?_;refine Jfw [] [1,2,5,104,106,307,100,103,308,9,10,11,12,13,14] (af _) ?_;refine Jz 5 ?_;refine Fw.qf (gT σ hσ e.name (htb om)) (ag (au 3 rfl) (ag (au 4 rfl) (af _))) ?_;refine Jz 2 ?_;refine Fw.qf (Zo σ e.name rs) (af _) ?_;refine Jz 10 ?_;refine Dr (Da (Ck (Cr (Cq (Nv (.inl rfl) results249 rfl rfl rfl ?_)))));subst hrs;exact⟨rfl,rfl⟩;refine Jz 6 ?_;refine ax rfl ?_ ?_<;>intro k84;refine Js (Jfw [] [1,2,5,104,106,307,100,103,308,9,10,11,12,13,14] (af _) ?_);refine Jz 5 ?_;refine Fw.qf (gT σ hσ e.name (htb om)) (ag (au 3 rfl) (ag (au 4 rfl) (af _))) ?_;refine Jz 2 ?_;refine Fw.qf (Zo σ e.name rs) (af _) ?_;refine Jz 10 ?_;refine Dr (Da (Ck (Cr (Cq (Nv (.inl rfl) results249 rfl rfl rfl ?_)))));subst hrs;exact⟨rfl,rfl⟩;refine Jz 11 ?_;refine Dr (Da (Ck (Cr (Cq (Nv (.inl rfl) results249 rfl rfl rfl ?_)))));subst hrs;exact⟨rfl,rfl⟩
theorem sI(σ:Scp)(hσ:σ.Low):∀e:Ex,∀t:Nat,e.pure.low→e.pure.Ty σ t→Dz 249 [.agg #[vs σ.Af σ.flags σ.qf,vs σ.Av σ.vars σ.qv,vs σ.Ap σ.ps σ.qp], .agg (Be e).toArray] [all (e.kids Be),ros Gh σ.Af σ.flags,ros Hg σ.Av σ.vars,ros Dc σ.Ap σ.ps] (fun v Γ'=>v= .tuple #[ub t, .string nE,iv 0]∧Γ'=[])
 | e,t,h1,h2=>by
   obtain⟨u,a,b,c⟩:=VU h2;exact AL σ hσ e t u (fun x hx=>sI σ hσ x) (Ru h1).2 (We fun x hx=>by rw[Bj]at hx;obtain⟨y,hy,rfl⟩:=aPx.1 hx;exact Gy h1 hy) a b c
termination_by e=>SizeOf.sizeOf e
decreasing_by
 cases e with
 | mk op s n A q l=>
   have:=aQr (show x∈l from hx);simp only[Ex.mk.sizeOf_spec];omega
structure StT(F:Fl)(x:Cm)(σ:Scp)(k:Nat)(s h:yB)(es:List PE):Prop where
 k1:k=1→∃t,(t=1∨t=2)∧σ.Ch s t∧Ot σ es t
 k2:k=2∨k=3→σ.Ch s 3
 k9:k=9→σ.Ch s 1
 ke:k=2∨k=3∨k=6∨k=7∨k=8∨k=9→Ot σ es 1
 kb:k=4∨k=5→Ot σ es 2
 k6:k=6→∃c h',fdC F.comps s=some c∧fdH c.vers h=some h'∧es.length=h'.ps.length
 k7:k=7→∃h',fdH x.vers h=some h'∧es.length=h'.ps.length+1
mutual
def PS.Ty(F:Fl)(x:Cm)(σ:Scp):PS→Prop
 |⟨k,s,h,es,t,e⟩=>StT F x σ k s h es∧Mh F x σ t∧Mh F x σ e
def Mh(F:Fl)(x:Cm)(σ:Scp):List PS→Prop
 |[]=>True
 |s::r=>PS.Ty F x σ s∧Mh F x σ r
end
section
variable{F:Fl}{x:Cm}{σ:Scp}
theorem oJ:∀{l:List PS},Mh F x σ l→∀s∈l,s.Ty F x σ
 |[],_,x,h=>by cases h
 | e::r,h,x,hx=>by
   rcases aPi.1 hx with rfl|hx
   ·exact h.1
   ·exact oJ h.2 x hx
theorem Qh:∀{l:List PS},(∀s∈l,s.Ty F x σ)→Mh F x σ l
 |[],_=>trivial
 |e::r,h=>⟨h e (aPc ..),Qh fun x hx=>h x (aPb _ hx)⟩
theorem AO{s:St}(h:s.pure.Ty F x σ):StT F x σ s.kind s.name s.hand (Cv s.exprs)∧Mh F x σ (Am s.thn)∧Mh F x σ (Am s.els):=by
 rw[Ju]at h;exact h
theorem sJ{l:List St}(h:Mh F x σ (Am l)){s:St}(hx:s∈l):s.pure.Ty F x σ:=oJ h s.pure (by rw[Ei];exact aPx.2 ⟨s,hx,rfl⟩)
end
theorem Wm(b bc:Nat)(F:Fl)(x:Cm)(σ:Scp)(hσ:σ.Low)(pl:yB)(n:Nat)(s:yB)(t:Nat)(h:σ.Ch s t):
    Dz 240 [pv b, .string s] [box b [pv bc,vs σ.Af σ.flags σ.qf,vs σ.Av σ.vars σ.qv,vs σ.Ap σ.ps σ.qp, .string x.name,vs x.Av x.vars x.qv,vs x.An x.vers x.qn, .string pl,nv n] 317,ros Hg σ.Av σ.vars,ros Dc σ.Ap σ.ps] (fun v Γ'=>v=ub t∧Γ'=[box b [pv bc,vs σ.Af σ.flags σ.qf,vs σ.Av σ.vars σ.qv,vs σ.Ap σ.ps σ.qp, .string x.name,vs x.Av x.vars x.qv,vs x.An x.vers x.qn, .string pl,nv n] 317,ros Hg σ.Av σ.vars,ros Dc σ.Ap σ.ps]):=by
 refine Ba func240 ntmps240 fun w0=>?_;refine Jz 10 ?_;refine Jr (Pg (i:=0) (us:=[vs σ.Af σ.flags σ.qf,vs σ.Av σ.vars σ.qv,vs σ.Ap σ.ps σ.qp]) rfl rfl aLb rfl (Np (n:=3) rfl) rfl) ?_;refine Jm ?_;refine Jqf (KJ σ hσ s _ h) rfl (ag (au 1 rfl) (ag (au 2 rfl) (af _))) ?_;rintro _ _ ⟨w,rfl,rfl,hw⟩;refine⟨rfl,?_⟩;refine Jz 3 ?_;refine ay fun b5=>?_;refine Jz 20 ?_;refine Cq (bv results240 ?_);rw[hw];exact⟨rfl,rfl⟩
theorem Wn(b bc:Nat)(F:Fl)(x:Cm)(σ:Scp)(hσ:σ.Low)(pl:yB)(n:Nat)(w:yB)(t:Nat)(A:OA)(q:Nat)(l:List Ex)(hl:l.length≤12)(hlow:Kz (Cv l))(hty:Ot σ (Cv l) t):
    Dz 241 [pv b,ub t,vs A l q] [box b [pv bc,vs σ.Af σ.flags σ.qf,vs σ.Av σ.vars σ.qv,vs σ.Ap σ.ps σ.qp, .string x.name,vs x.Av x.vars x.qv,vs x.An x.vers x.qn, .string pl,nv n] 317,box bc (cF F [.string w, .string nE, .string nE,iv 0]) 192,all (lsF Be A l),ros Gh σ.Af σ.flags,ros Hg σ.Av σ.vars,ros Dc σ.Ap σ.ps] (fun v Γ'=>v= .tuple #[]∧Γ'=[box b [pv bc,vs σ.Af σ.flags σ.qf,vs σ.Av σ.vars σ.qv,vs σ.Ap σ.ps σ.qp, .string x.name,vs x.Av x.vars x.qv,vs x.An x.vers x.qn, .string pl,nv n] 317,box bc (cF F [.string w, .string nE, .string nE,iv 0]) 192]):=by
 refine Ba func241 ntmps241 fun w0=>?_;refine Js (bz 2 rfl (ros Be A l) rfl (aPc ..) (Jz 7 ?_));refine Bz (fun s g mz ρ Γ=>∃(k:Nat),ρ=[s 0,s 1,s 11,s 12,(13,nv k)]∧Γ=[g 1,g 2,g 0,g 3,g 4,g 5,g 6]∧mz=l.length-k∧(k≤l.length)) ⟨⟨0,rfl,rfl,rfl,om⟩,sb⟩ ?_;rintro mz _ _ ⟨k,rfl,rfl,rfl,hk⟩;refine Jz 6 ?_;refine ax rfl ?_ ?_<;>intro c14;obtain⟨y,hy⟩:=bq l k om;refine Jz 8 ?_;refine ay fun b7=>?_;refine Jz 4 ?_;refine Cg 4 rfl (y.kids Be) (Ex.lax Be y) (Yo hy) (Jfw [] [0,1,2,103,104,405,6006,6007,6008,6009,6010,6011,6012] (af _) ?_);refine Jz 3 ?_;refine Ld rfl (Pg (i:=2) (us:=[vs σ.Af σ.flags σ.qf,vs σ.Av σ.vars σ.qv,vs σ.Ap σ.ps σ.qp]) rfl rfl aLb rfl (Np (n:=3) rfl) rfl) ?_;refine Jz 1 ?_;refine Dy rfl rfl rfl rfl rfl .fc (sI σ hσ y t (Mg hlow (av hy)) (sH hty (av hy))) (by show owns (y.kids Be)++[]=[];rw[(Ex.lax Be y).owns];rfl) (ag (au 0 rfl) (ag (au 6 rfl) (ag (au 7 rfl) (ag (au 8 rfl) (af _))))) ?_;rintro _ _ ⟨rfl,rfl⟩;refine⟨rfl,?_⟩;refine Jz 17 ?_;refine az [3] (gP bc F w nE) ?_;rintro _ _ ⟨rfl,rfl⟩;refine Jz 9 ?_;refine Jr (Cn (v':=bt) (aPe Value.bool (aQg (rfl))) (Rd.eql rfl rfl rfl)) ?_;refine az [0] (Hm bc F w nE 10) ?_;rintro _ _ ⟨rfl,rfl⟩;refine Jz 8 ?_;refine Bp ⟨⟨k+1,rfl,rfl,rfl,om⟩,sb⟩;refine Jz 4 ?_;refine Ko (Gr (Dr (Da (Ck (Dx (.inr rfl) results241 ?_)))));exact⟨rfl,rfl⟩
theorem KL(b bc:Nat)(F:Fl)(x:Cm)(σ:Scp)(hσ:σ.Low)(pl:yB)(n:Nat)(w:yB)(y:Cm)(hn:yB)(h':Hd)(fi:Int)(A:OA)(q:Nat)(l:List Ex)(hl:l.length≤12)(hlow:Kz (Cv l))(hty:Ot σ (Cv l) 1)(hv:y.vers.length≤2∧∀v∈y.vers,v.l.length≤3)(hf:fdH y.vers hn=some h')(hfi:0≤fi∧fi≤1)(hle:(l.length:Int)-fi=h'.ps.length):
    Dz 242 [pv b, .agg (Gm y).toArray, .string hn,vs A l q,iv fi] [box b [pv bc,vs σ.Af σ.flags σ.qf,vs σ.Av σ.vars σ.qv,vs σ.Ap σ.ps σ.qp, .string x.name,vs x.Av x.vars x.qv,vs x.An x.vers x.qn, .string pl,nv n] 317,box bc (cF F [.string w, .string nE, .string nE,iv 0]) 192,all (lsF Be A l),ros Gh σ.Af σ.flags,ros Hg σ.Av σ.vars,ros Dc σ.Ap σ.ps,ros Fq y.An y.vers,all (y.vers.flatMap (Vs.kids eX))] (fun v Γ'=>v= .tuple #[]∧Γ'=[box b [pv bc,vs σ.Af σ.flags σ.qf,vs σ.Av σ.vars σ.qv,vs σ.Ap σ.ps σ.qp, .string x.name,vs x.Av x.vars x.qv,vs x.An x.vers x.qn, .string pl,nv n] 317,box bc (cF F [.string w, .string nE, .string nE,iv 0]) 192]):=by
 refine Ba func242 ntmps242 fun w0=>?_;refine Js (dh (Jbo fun b6=>?_));refine Jz 7 ?_;refine Jqf (GK y.An y.qn y.vers hn h' om hv.2 hf) (by show owns (y.vers.flatMap (Vs.kids eX))++[]=[];rw[(Gt (k:=Vs.kids eX) (l:=y.vers) fun h _=>Vs.lax eX h).owns];rfl) (ag (au 7 rfl) (ag (au 8 rfl) (af _))) ?_;rintro _ _ ⟨rfl,rfl⟩;refine⟨rfl,?_⟩;refine Jz 3 ?_;refine ay fun b10=>?_;refine Jz 12 ?_;refine az [3] (Hm bc F w hn 9) ?_;rintro _ _ ⟨rfl,rfl⟩;refine Jz 3 ?_;refine Jfw [] [0,1,2,4,5,6,7,8,12,103,109,10,11,513] (af _) ?_;refine Jz 6 ?_;refine di rfl (Ev rfl rfl rfl om) ?_;refine Jz 5 ?_;refine di rfl (Cn (v':=bt) (aPe Value.bool (aQg om)) (Rd.eql rfl rfl rfl)) ?_;refine Du [0] (Hm bc F w hn 10) ?_;rintro _ _ ⟨rfl,rfl⟩;refine⟨af _,?_⟩;refine Jz 5 ?_;refine az [3,0,2,2,2,2] (Wn b bc F x σ hσ pl n w 1 A q l hl hlow hty) ?_;rintro _ _ ⟨rfl,rfl⟩;refine Jn (Gr (Dr (Da (Ck (Dx (.inr rfl) results242 ?_)))));exact⟨rfl,rfl⟩
theorem aCp(b bc:Nat)(F:Fl)(x:Cm)(σ:Scp)(hσ:σ.Low)(pl:yB)(n:Nat)(w:yB)(hF:Nk F)(i:Nat)(hx:F.comps[i]?=some x)(s:St)(hle:s.exprs.length≤4)(hlow:Kz (Cv s.exprs))(hT:StT F x σ s.kind s.name s.hand (Cv s.exprs)):
    Dz 221 [pv b, .agg (Ca s).toArray] [box b [pv bc,vs σ.Af σ.flags σ.qf,vs σ.Av σ.vars σ.qv,vs σ.Ap σ.ps σ.qp, .string x.name,vs x.Av x.vars x.qv,vs x.An x.vers x.qn, .string pl,nv n] 317,box bc (cF F [.string w, .string nE, .string nE,iv 0]) 192,all (lsF Be s.A s.exprs),ros Gh σ.Af σ.flags,ros Hg σ.Av σ.vars,ros Dc σ.Ap σ.ps,all (F.kids eX)] (fun v Γ'=>v= .tuple #[]∧Γ'=[box b [pv bc,vs σ.Af σ.flags σ.qf,vs σ.Av σ.vars σ.qv,vs σ.Ap σ.ps σ.qp, .string x.name,vs x.Av x.vars x.qv,vs x.An x.vers x.qn, .string pl,nv n] 317,box bc (cF F [.string w, .string nE, .string nE,iv 0]) 192]):=by
 obtain⟨j1,j2,j9,je,jb,j6,j7⟩:=hT;have hFc:=hF.comps;refine Ba func221 ntmps221 fun w0=>?_;refine Js (dh (Jbo fun b3=>?_));refine Jz 15 ?_;refine ax rfl ?_ ?_<;>intro k9;refine Js ?_;obtain⟨t,ht,hch,hte⟩:=j1 om;refine Jz 4 ?_;refine az [1,4,4] (Wm b bc F x σ hσ pl n s.name t hch) ?_;rintro _ _ ⟨rfl,rfl⟩;refine Jz 7 ?_;refine JgP ?_ ?_<;>intro g17;refine Jz 11 ?_;refine az [0,3,3,3,0,0] (Wn b bc F x σ hσ pl n w t s.A s.q s.exprs om hlow hte) ?_;rintro _ _ ⟨rfl,rfl⟩;refine Jn (Jbn (Da (Ck (Dx (.inr rfl) results221 ?_))));exact⟨rfl,rfl⟩;refine Jm ?_;refine Jr (Cn (v':=bt) (aPe Value.bool (aQg om)) (Rd.eql rfl rfl rfl)) ?_;refine Jz 9 ?_;refine az [0,3,3,3,0,0] (Wn b bc F x σ hσ pl n w t s.A s.q s.exprs om hlow hte) ?_;rintro _ _ ⟨rfl,rfl⟩;refine Jn (Jbn (Da (Ck (Dx (.inr rfl) results221 ?_))));exact⟨rfl,rfl⟩;refine Jz 7 ?_;refine ax rfl ?_ ?_<;>intro k33;refine Jsp (Jt (Ll (aPe (fun b=>some (Value.bool b)) (aQg k33)) (Js (Jfw [box b [pv bc,vs σ.Af σ.flags σ.qf,vs σ.Av σ.vars σ.qv,vs σ.Ap σ.ps σ.qp, .string x.name,vs x.Av x.vars x.qv,vs x.An x.vers x.qn, .string pl,nv n] 317,box b3 (Ca s) 212] [0,1,2,3,4,5,6,9,10,507,8,511] (ag (au 1 rfl) (ag (au 0 rfl) (af _))) ?_))));refine Jz 9 ?_;refine Du [1,4,4] (Wm b bc F x σ hσ pl n s.name 3 (j2 om)) ?_;rintro _ _ ⟨rfl,rfl⟩;refine⟨ag (au 0 rfl) (ag (au 3 rfl) (af _)),?_⟩;refine Jz 1 ?_;refine Du [4] (Hm bc F w s.name 10) ?_;rintro _ _ ⟨rfl,rfl⟩;refine⟨ag (au 1 rfl) (ag (au 4 rfl) (af _)),?_⟩;refine Jz 6 ?_;refine az [1,0,3,3,0,0] (Wn b bc F x σ hσ pl n w 1 s.A s.q s.exprs om hlow (je om)) ?_;rintro _ _ ⟨rfl,rfl⟩;refine Jn (Jbn (Da (Ck (Dx (.inr rfl) results221 ?_))));exact⟨rfl,rfl⟩;refine Jz 5 ?_;refine ax rfl ?_ ?_<;>intro k33_2;refine Js (Jfw [box b [pv bc,vs σ.Af σ.flags σ.qf,vs σ.Av σ.vars σ.qv,vs σ.Ap σ.ps σ.qp, .string x.name,vs x.Av x.vars x.qv,vs x.An x.vers x.qn, .string pl,nv n] 317,box b3 (Ca s) 212] [0,1,2,3,4,5,6,9,10,507,8,511] (ag (au 1 rfl) (ag (au 0 rfl) (af _))) ?_);refine Jz 9 ?_;refine Du [1,4,4] (Wm b bc F x σ hσ pl n s.name 3 (j2 om)) ?_;rintro _ _ ⟨rfl,rfl⟩;refine⟨ag (au 0 rfl) (ag (au 3 rfl) (af _)),?_⟩;refine Jz 1 ?_;refine Du [4] (Hm bc F w s.name 10) ?_;rintro _ _ ⟨rfl,rfl⟩;refine⟨ag (au 1 rfl) (ag (au 4 rfl) (af _)),?_⟩;refine Jz 6 ?_;refine az [1,0,3,3,0,0] (Wn b bc F x σ hσ pl n w 1 s.A s.q s.exprs om hlow (je om)) ?_;rintro _ _ ⟨rfl,rfl⟩;refine Jn (Jbn (Da (Ck (Dx (.inr rfl) results221 ?_))));exact⟨rfl,rfl⟩;refine Jz 6 ?_;refine ax rfl ?_ ?_<;>intro k52;refine Js (Jfw [box b [pv bc,vs σ.Af σ.flags σ.qf,vs σ.Av σ.vars σ.qv,vs σ.Ap σ.ps σ.qp, .string x.name,vs x.Av x.vars x.qv,vs x.An x.vers x.qn, .string pl,nv n] 317,box b3 (Ca s) 212] [0,1,2,3,4,5,6,9,10,507,8,511] (ag (au 1 rfl) (ag (au 0 rfl) (af _))) ?_);refine Jz 9 ?_;refine Du [1,4,4] (Wm b bc F x σ hσ pl n s.name 1 (j9 om)) ?_;rintro _ _ ⟨rfl,rfl⟩;refine⟨ag (au 0 rfl) (ag (au 3 rfl) (af _)),?_⟩;refine Jz 1 ?_;refine Du [4] (Hm bc F w s.name 10) ?_;rintro _ _ ⟨rfl,rfl⟩;refine⟨ag (au 1 rfl) (ag (au 4 rfl) (af _)),?_⟩;refine Jz 6 ?_;refine az [1,0,3,3,0,0] (Wn b bc F x σ hσ pl n w 1 s.A s.q s.exprs om hlow (je om)) ?_;rintro _ _ ⟨rfl,rfl⟩;refine Jn (Jbn (Da (Ck (Dx (.inr rfl) results221 ?_))));exact⟨rfl,rfl⟩;refine Jz 7 ?_;refine ax rfl ?_ ?_<;>intro k70;refine Jsp (Jt (Ll (aPe (fun b=>some (Value.bool b)) (aQg k70)) (Jz 4 ?_)));refine az [1,1,1,1,1,1] (Wn b bc F x σ hσ pl n w 2 s.A s.q s.exprs om hlow (jb om)) ?_;rintro _ _ ⟨rfl,rfl⟩;refine Jn (Jbn (Da (Ck (Dx (.inr rfl) results221 ?_))));exact⟨rfl,rfl⟩;refine Jz 5 ?_;refine ax rfl ?_ ?_<;>intro k70_2;refine Jz 4 ?_;refine az [1,1,1,1,1,1] (Wn b bc F x σ hσ pl n w 2 s.A s.q s.exprs om hlow (jb om)) ?_;rintro _ _ ⟨rfl,rfl⟩;refine Jn (Jbn (Da (Ck (Dx (.inr rfl) results221 ?_))));exact⟨rfl,rfl⟩;refine Jz 6 ?_;refine ax rfl ?_ ?_<;>intro k77;refine Js ?_;obtain⟨c,h',hfc,hh',hhl⟩:=j6 om;obtain⟨ic,hic⟩:=aRb (List.mem_of_find?_eq_some hfc);have hcv:c.vers.length≤2∧∀v∈c.vers,v.l.length≤3:=⟨(hF.comp c (av hic)).vers2,fun v hv=>((hF.comp c (av hic)).ver v hv).1⟩
 refine bz 7 rfl (ros Gm F.Ac F.comps) rfl (En (k:=eX)) (Jfw [] [0,1,2,8,103,4,5,6,107,109,310,11,12,13,214,15515,16] (af _) ?_);refine Jz 10 ?_;refine Fw.qf (oG F.Ac F.qc F.comps s.name c om hfc) (ag (au 0 rfl) (af _)) ?_;refine Jz 3 ?_;refine Fw.mk rfl rfl rfl rfl rfl (Mk.alloc rfl aKk) ?_;rintro _ _ ⟨b5,rfl,rfl⟩;refine dm rfl rfl rfl (Co (i:=0) rfl rfl rfl NK rfl rfl rfl (bta rfl)) (af _) ?_;refine Jz 4 ?_;refine Jfw [] [0,1,2,4,5,103,106,507] (af _) ?_;refine Jz 7 ?_;refine Du [4] (Hm bc F w s.name 9) ?_;rintro _ _ ⟨rfl,rfl⟩;refine⟨af _,?_⟩;refine Jz 2 ?_;refine Cg 9 rfl (c.kids eX) (Cm.lax eX c) (Dg hic) (bz 0 rfl (ros Fq c.An c.vers) rfl (Kk (k:=eX)) (Cg 1 rfl (c.vers.flatMap (Vs.kids eX)) (Gt fun h _=>Vs.lax eX h) (fun z hz=>aPb _ (aPb _ hz)) (Jz 7 ?_)));refine az [7,3,6,6,6,6,1,0] (KL b bc F x σ hσ pl n w c s.hand h' 0 s.A s.q s.exprs om hlow (je om) hcv hh' de (by rw[Bj,aPg]at hhl;omega)) ?_;rintro _ _ ⟨rfl,rfl⟩;refine Jn (Jbn (Ko (Gr (Dr (Da (Ck (Dx (.inr rfl) results221 ?_)))))));exact⟨rfl,rfl⟩;refine Jz 6 ?_;refine ax rfl ?_ ?_<;>intro k108;obtain⟨h',hh',hhl⟩:=j7 om;have hxv:x.vers.length≤2∧∀v∈x.vers,v.l.length≤3:=⟨(hF.comp x (av hx)).vers2,fun v hv=>((hF.comp x (av hx)).ver v hv).1⟩
 refine Cg 7 rfl (x.kids eX) (Cm.lax eX x) (Dg hx) (bz 0 rfl (ros Fq x.An x.vers) rfl (Kk (k:=eX)) (Cg 1 rfl (x.vers.flatMap (Vs.kids eX)) (Gt fun h _=>Vs.lax eX h) (fun z hz=>aPb _ (aPb _ hz)) (Jfw [] [0,1,2,3,5,7,104,106,108,509] (af _) ?_)));refine Jz 6 ?_;refine Ld rfl (Pg (i:=4) (us:=(cX x [])) rfl rfl NK rfl (Np (n:=3) rfl) rfl) ?_;refine Jz 2 ?_;refine Du [4,4,4,4,4,4,1,0] (KL b bc F x σ hσ pl n w x s.hand h' 1 s.A s.q s.exprs om hlow (je om) hxv hh' de (by rw[Bj,aPg]at hhl;omega)) ?_;rintro _ _ ⟨rfl,rfl⟩;refine⟨af _,?_⟩;refine Jz 2 ?_;refine Dr (Da (Ck (Dx (.inr rfl) results221 ?_)));exact⟨rfl,rfl⟩;refine Jz 6 ?_;refine ax rfl ?_ ?_<;>intro k120;refine Jz 4 ?_;refine az [1,1,1,1,1,1] (Wn b bc F x σ hσ pl n w 1 s.A s.q s.exprs om hlow (je om)) ?_;rintro _ _ ⟨rfl,rfl⟩;refine Jn (Jbn (Da (Ck (Dx (.inr rfl) results221 ?_))));exact⟨rfl,rfl⟩;refine Jz 2 ?_;refine Xq (Ko (Gr (Dr (Da (Cq (Dx (.inr rfl) results221 ?_))))));exact⟨rfl,rfl⟩
theorem GN(b bc:Nat)(F:Fl)(x:Cm)(σ:Scp)(hσ:σ.Low)(pl:yB)(hpl:pl.size≤100)(hF:Nk F)(i:Nat)(hx:F.comps[i]?=some x)(l:List St)(ih:∀s∈l,(∀(A:OA) (q n:Nat) (w:yB),s.thn.length≤12→De (Am s.thn)→Mh F x σ (Am s.thn)→n+Bl (Am s.thn)≤1000→Dz 180 [pv b,vs A s.thn q] [box b [pv bc,vs σ.Af σ.flags σ.qf,vs σ.Av σ.vars σ.qv,vs σ.Ap σ.ps σ.qp, .string x.name,vs x.Av x.vars x.qv,vs x.An x.vers x.qn, .string pl,nv n] 317,box bc (cF F [.string w, .string nE, .string nE,iv 0]) 192,all (lsG Be Ca A s.thn),ros Gh σ.Af σ.flags,ros Hg σ.Av σ.vars,ros Dc σ.Ap σ.ps,all (F.kids eX),p10c] (fun v Γ'=>∃w':yB,v= .tuple #[]∧Γ'=[box b [pv bc,vs σ.Af σ.flags σ.qf,vs σ.Av σ.vars σ.qv,vs σ.Ap σ.ps σ.qp, .string x.name,vs x.Av x.vars x.qv,vs x.An x.vers x.qn, .string pl,nv ((n+Bl (Am s.thn)))] 317,box bc (cF F [.string w', .string nE, .string nE,iv 0]) 192]))∧(∀(A:OA) (q n:Nat) (w:yB),s.els.length≤12→De (Am s.els)→Mh F x σ (Am s.els)→n+Bl (Am s.els)≤1000→Dz 180 [pv b,vs A s.els q] [box b [pv bc,vs σ.Af σ.flags σ.qf,vs σ.Av σ.vars σ.qv,vs σ.Ap σ.ps σ.qp, .string x.name,vs x.Av x.vars x.qv,vs x.An x.vers x.qn, .string pl,nv n] 317,box bc (cF F [.string w, .string nE, .string nE,iv 0]) 192,all (lsG Be Ca A s.els),ros Gh σ.Af σ.flags,ros Hg σ.Av σ.vars,ros Dc σ.Ap σ.ps,all (F.kids eX),p10c] (fun v Γ'=>∃w':yB,v= .tuple #[]∧Γ'=[box b [pv bc,vs σ.Af σ.flags σ.qf,vs σ.Av σ.vars σ.qv,vs σ.Ap σ.ps σ.qp, .string x.name,vs x.Av x.vars x.qv,vs x.An x.vers x.qn, .string pl,nv ((n+Bl (Am s.els)))] 317,box bc (cF F [.string w', .string nE, .string nE,iv 0]) 192])))(A:OA)(q n:Nat)(w:yB)(hl:l.length≤12)(hlow:De (Am l))(hty:Mh F x σ (Am l))(hb:n+Bl (Am l)≤1000):
    Dz 180 [pv b,vs A l q] [box b [pv bc,vs σ.Af σ.flags σ.qf,vs σ.Av σ.vars σ.qv,vs σ.Ap σ.ps σ.qp, .string x.name,vs x.Av x.vars x.qv,vs x.An x.vers x.qn, .string pl,nv n] 317,box bc (cF F [.string w, .string nE, .string nE,iv 0]) 192,all (lsG Be Ca A l),ros Gh σ.Af σ.flags,ros Hg σ.Av σ.vars,ros Dc σ.Ap σ.ps,all (F.kids eX),p10c] (fun v Γ'=>∃w':yB,v= .tuple #[]∧Γ'=[box b [pv bc,vs σ.Af σ.flags σ.qf,vs σ.Av σ.vars σ.qv,vs σ.Ap σ.ps σ.qp, .string x.name,vs x.Av x.vars x.qv,vs x.An x.vers x.qn, .string pl,nv ((n+Bl (Am l)))] 317,box bc (cF F [.string w', .string nE, .string nE,iv 0]) 192]):=by
 refine Ba func180 ntmps180 fun w0=>?_;refine Js (bz 2 rfl (ros Ca A l) rfl (aPc ..) (Jz 7 ?_));refine Bz (fun s g mz ρ Γ=>∃(m:Nat) (ww:yB) (k:Nat),ρ=[s 0,s 6,s 7,(8,nv k)]∧Γ=[box b [pv bc,vs σ.Af σ.flags σ.qf,vs σ.Av σ.vars σ.qv,vs σ.Ap σ.ps σ.qp, .string x.name,vs x.Av x.vars x.qv,vs x.An x.vers x.qn, .string pl,nv m] 317,box bc (cF F [.string ww, .string nE, .string nE,iv 0]) 192,g 0,g 3,g 4,g 5,g 6,g 7,p10c]∧mz=l.length-k∧(k≤l.length)∧(m=n+Bl (Am (l.take k)))) ⟨⟨n,w,0,rfl,rfl,rfl,om,rfl⟩,sb⟩ ?_;rintro mz _ _ ⟨m,ww,k,rfl,rfl,rfl,hk,hm⟩;refine Jz 6 ?_;refine ax rfl ?_ ?_<;>intro k9;obtain⟨s,hs⟩:=bq l k om;obtain⟨hsk,⟨hse,hsl⟩,⟨hst,hstl⟩,hsn,hsnl⟩:=Ki (Jj hlow (av hs));have hsT:=AO (sJ hty (av hs));have hsm:s.pure∈Am l:=by rw[Ei];exact aPx.2 ⟨s,av hs,rfl⟩
 have htk:Am (l.take (k+1))=Am (l.take k)++[s.pure]:=by rw[Cy hs,Ei,aPn,←Ei];rfl
 have hsc:PS.cnt s.pure=1+Bl (Am s.thn)+Bl (Am s.els):=by rw[Ju s];rfl
 have hcs:Bl (Am (l.take (k+1)))=Bl (Am (l.take k))+PS.cnt s.pure:=by rw[htk,Nc];show _+(PS.cnt s.pure+0)=_;omega
 have hall:Bl (Am (l.take (k+1)))≤Bl (Am l):=by
  have h1:Am l=Am (l.take (k+1))++Am (l.drop (k+1)):=by rw[Ei,Ei,Ei,←aPn,aRa]
  rw[h1,Nc];omega
 refine Jz 8 ?_;refine ay fun b5=>?_;refine Jz 5 ?_;refine Jfw [] [0,1,2,4,5,6,8,9,10,111,312,103,107,13,514,15] (af _) ?_;refine Jz 10 ?_;refine Fw.qf (itoa_fn ((m:Nat):Int) om om) (ag (au 9 rfl) (af _)) ?_;refine Jz 2 ?_;refine di rfl (Dl (a:=pl) (b:=(BA (Lib.itoa ((m:Nat):Int)))) rfl rfl rfl (by rw[BA_size];have:=itoa_len (n:=((m:Nat):Int)) om om;omega)) ?_;refine Du [2] (sG bc F ww (pl++(BA (Lib.itoa ((m:Nat):Int))))) ?_;rintro _ _ ⟨rfl,rfl⟩;refine⟨af _,?_⟩;refine Jz 19 ?_;refine Cg 4 rfl (lsG Be Ca s.Ae s.els) (Dj _ _ _ _) (fun c hc=>Lf hs c (Gz s c hc)) (Cg 5 rfl (lsG Be Ca s.At s.thn) (Dj _ _ _ _) (fun c hc=>Lf hs c (Ig s c hc)) (Cg 6 rfl (lsF Be s.A s.exprs) (Mf _ _ _) (fun c hc=>Lf hs c (Lg s c hc)) (Py 10 rfl rfl (Py 10 rfl rfl (Py 10 rfl rfl (Cg 14 rfl (F.kids eX) (Fl.lax eX F) (fun c hc=>hc) (Jz 3 ?_)))))));refine az [9,7,4,1,1,1,0] (aCp b bc F x σ hσ pl (m+1) (pl++(BA (Lib.itoa ((m:Nat):Int)))) hF i hx s hse hsl hsT.1) ?_;rintro _ _ ⟨rfl,rfl⟩;refine Jz 3 ?_;refine Py 9 rfl rfl (Py 9 rfl rfl (Py 9 rfl rfl (Cg 13 rfl (F.kids eX) (Fl.lax eX F) (fun c hc=>hc) (Py 15 rfl rfl (Jz 4 ?_)))));refine az [5,5,5,2,2,2,1,0] ((ih s (av hs)).1 s.At s.qt (m+1) (pl++(BA (Lib.itoa ((m:Nat):Int)))) hst hstl hsT.2.1 om) ?_;rintro _ _ ⟨w2,rfl,rfl⟩;refine Jn (Jt (Py 8 rfl rfl (Py 8 rfl rfl (Py 8 rfl rfl (Cg 12 rfl (F.kids eX) (Fl.lax eX F) (fun c hc=>hc) (Py 14 rfl rfl (Jz 4 ?_)))))));refine az [5,5,5,2,2,2,1,0] ((ih s (av hs)).2 s.Ae s.qe (m+1+Bl (Am s.thn)) w2 hsn hsnl hsT.2.2 om) ?_;rintro _ _ ⟨w2_2,rfl,rfl⟩;refine Jz 8 ?_;refine Bp ⟨⟨((m+1+Bl (Am s.thn))+Bl (Am s.els)),w2_2,k+1,rfl,rfl,rfl,om,(by rw[hcs,hsc];omega)⟩,sb⟩;refine Jz 4 ?_;refine qP (Xq (Ko (Gr (Dr (Da (Ck (Dx (.inr rfl) results180 ?_)))))));obtain rfl:k=l.length:=om;rw[hm,List.take_length];exact⟨_,rfl,rfl⟩
theorem oK(b bc:Nat)(F:Fl)(x:Cm)(σ:Scp)(hσ:σ.Low)(pl:yB)(hpl:pl.size≤100)(hF:Nk F)(i:Nat)(hx:F.comps[i]?=some x):∀l:List St,∀(A:OA) (q n:Nat) (w:yB),l.length≤12→De (Am l)→Mh F x σ (Am l)→n+Bl (Am l)≤1000→Dz 180 [pv b,vs A l q] [box b [pv bc,vs σ.Af σ.flags σ.qf,vs σ.Av σ.vars σ.qv,vs σ.Ap σ.ps σ.qp, .string x.name,vs x.Av x.vars x.qv,vs x.An x.vers x.qn, .string pl,nv n] 317,box bc (cF F [.string w, .string nE, .string nE,iv 0]) 192,all (lsG Be Ca A l),ros Gh σ.Af σ.flags,ros Hg σ.Av σ.vars,ros Dc σ.Ap σ.ps,all (F.kids eX),p10c] (fun v Γ'=>∃w':yB,v= .tuple #[]∧Γ'=[box b [pv bc,vs σ.Af σ.flags σ.qf,vs σ.Av σ.vars σ.qv,vs σ.Ap σ.ps σ.qp, .string x.name,vs x.Av x.vars x.qv,vs x.An x.vers x.qn, .string pl,nv ((n+Bl (Am l)))] 317,box bc (cF F [.string w', .string nE, .string nE,iv 0]) 192])
 |l,A,q,n,w,h1,h2,h3,h4=>GN b bc F x σ hσ pl hpl hF i hx l (fun s hs=>⟨oK b bc F x σ hσ pl hpl hF i hx s.thn,oK b bc F x σ hσ pl hpl hF i hx s.els⟩) A q n w h1 h2 h3 h4
termination_by l=>SizeOf.sizeOf l
decreasing_by
 all_goals
  have h:=aQr hs;have:SizeOf.sizeOf s.thn<SizeOf.sizeOf s∧SizeOf.sizeOf s.els<SizeOf.sizeOf s:=by cases s;simp only[St.mk.sizeOf_spec];omega
  omega
theorem Gj{s:yB}(h:Oc s):s.size≤6:=by
 obtain⟨t,ht,rfl⟩:=h;have h1:Ta.all (fun t=>decide (t.length≤6))=true:=rfl;have h2:t.length≤6:=by simpa using aRd.1 h1 t ht
 show(t.map UInt8.ofNat).toArray.size≤6;rw[List.size_toArray,aPg];exact h2
def Dis{α:Type}(f:α→yB)(l:List α):Prop:=∀k x,l[k]?=some x→∀y∈l.take k,f y≠f x
theorem Dis.of{α:Type}{f:α→yB}{l:List α}(h:∀(i j:Nat) (x y:α),i<j→l[i]?=some x→l[j]?=some y→f x≠f y):Dis f l:=fun k x hx y hy=>by
 obtain⟨i,hi⟩:=aRb hy;have hik:i<k:=by have:=(aOz.1 hi).1;rw[aPo]at this;omega
 exact h i k y x hik (by rw[aSc hik]at hi;exact hi) hx
theorem Dis.ix{α:Type}{f:α→yB}{l:List α}(h:Dis f l){k:Nat}{x:α}(hx:l[k]?=some x):ixF (f x) 0 ((l.take k).map f)=none:=Lt fun hm=>by
 obtain⟨y,hy,e⟩:=aPx.1 hm;exact h k x hx y hy e
theorem Dis.fd{α:Type}{f:α→yB}{l:List α}(h:Dis f l){k:Nat}{x:α}(hx:l[k]?=some x):(l.take k).find? (fun y:α=>decide (f y=f x))=none:=List.find?_eq_none.2 fun y hy=>by simpa using h k x hx y hy
theorem Dis.fs{α:Type}{f:α→yB}{l:List α}(h:Dis f l){k:Nat}{x:α}(hx:l[k]?=some x):l.find? (fun y:α=>decide (f y=f x))=some x:=by
 have h1:=h.fd hx;obtain⟨hk,he⟩:=aOz.1 hx;rw[←aRa k l,List.find?_append,h1,Option.none_or,aRm hk,he,List.find?_cons_of_pos sm]
theorem Dis.nms{α:Type}{f:α→yB}{l:List α}{c n:Nat}(hc:c<256)(hn:n<200)(h:l.map f=Go.Proofs.YtihgdnjkofpgiaaGreatDoor.nms c n):Dis f l:=Dis.of fun i j x y hij hx hy e=>by
 have hln:l.length=n:=by rw[←aPg (f:=f),h,Dn]
 have hj:=(aOz.1 hy).1;have g:∀i x,l[i]?=some x→f x=nm c i:=fun i x hx=>by
  have hi:=(aOz.1 hx).1;have h1:(l.map f)[i]?=some (f x):=by rw[aPs,hx];rfl
  rw[h,Ed om]at h1;exact(aPq h1).symm
 rw[g i x hx,g j y hy]at e;have:=(Po hc hc om om e).2;omega
def aCq:List yB→Bool
 |[]=>true
 |s::r=>decide (s∉r)&&aCq r
theorem KM{α:Type}{f:α→yB}:∀{l:List α},aCq (l.map f)=true→∀(i j:Nat) (x y:α),i<j→l[i]?=some x→l[j]?=some y→f x≠f y
 |[],_,i,j,x,y,_,h,_=>by simp at h
 | a ::r,h,i,j,x,y,hij,hx,hy=>by
   obtain⟨h1,h2⟩:=(aPk _ _).mp (show(decide (f a∉r.map f)&&aCq (r.map f))=true from h);obtain⟨j,rfl⟩:∃k,j=k+1:=⟨j-1,by omega⟩
   have hy:r[j]?=some y:=by simpa using hy
   cases i with
   | zero=>
     have hx:a=x:=by simpa using hx
     intro e;exact aRn h1 (by rw[hx,e];exact aPx.2 ⟨y,av hy,rfl⟩)
   |succ i=>exact KM h2 i j x y om (by simpa using hx) hy
theorem VW:∀a<4,∀b<2,aCq ((varsOf a b).map Vr.name)=true:=by decide+kernel
theorem aHt:∀a<4,∀b<2,∀k<a,(fdV (varsOf a b) (nm 120 k)).map Vr.ty=some 1:=by decide+kernel
theorem aHu:∀a<4,∀b<2,(fdV (varsOf a b) nB0).map Vr.ty=some 2:=by decide+kernel
theorem aHv:∀a<4,(fdV (varsOf a 1) nT0).map Vr.ty=some 3:=by decide+kernel
theorem aHw:∀a<4,∀b<2,∀k<2,(fdV (varsOf a b) (nm 102 k)).isNone=true:=by decide+kernel
theorem aHx:∀a<4,∀b<2,∀k<2,(fdV (varsOf a b) (nm 112 k)).isNone=true:=by decide+kernel
theorem aCr:∀a<4,∀b<2,∀n<3,(varsOf a b).all (fun v=>decide (v.name∉nms 102 n))=true:=by decide+kernel
theorem aCs:∀i<3,∀n<3,nC i∉nms 102 n:=by decide+kernel
section
variable{F:Fl}{x:Cm}{ct:Ct}{ar:List Nat}{i np:Nat}{σ:Scp}
structure Sn(F:Fl)(x:Cm)(ct:Ct)(np:Nat)(σ:Scp):Prop where
 ok:ct.Ok
 n2:np≤2
 fl:σ.flags.map Fg.name=nms 102 ct.flags
 vs:σ.vars=varsOf ct.ints ct.tables
 ps:σ.ps=nms 112 np
 to:∀(k:Nat) (a:List Nat) (h n:Nat),ct.ars[k]?=some a→a[h]?=some n→∃c h',fdC F.comps (nC k)=some c∧fdH c.vers (nm 104 h)=some h'∧n=h'.ps.length
 me:∀(a:List Nat) (h n:Nat),ct.ars[ct.own]?=some a→a[h]?=some n→∃h',fdH x.vers (nm 104 h)=some h'∧n=h'.ps.length
theorem Sn.pn(h:Sn F x ct np σ){c k:Nat}(hc:c<256)(hk:k<200)(hne:112≠c):(ixF (nm c k) 0 σ.ps).isSome=false:=by
 have:=h.n2;rw[h.ps,Lt (Rp de hc om hk hne)];rfl
theorem Sn.chx(h:Sn F x ct np σ){k:Nat}(hk:k<ct.ints):σ.Ch (nm 120 k) 1:=by
 have hi:=h.ok.ints;have ht:=h.ok.tables;have h1:=aHt ct.ints om ct.tables om k hk;rw[←h.vs]at h1;obtain⟨v,hv,e⟩:=aPy.1 h1;exact⟨h.pn de om de,v,hv,e⟩
theorem Sn.chb(h:Sn F x ct np σ):σ.Ch nB0 2:=by
 have hi:=h.ok.ints;have ht:=h.ok.tables;have h1:=aHu ct.ints om ct.tables om;rw[←h.vs]at h1;obtain⟨v,hv,e⟩:=aPy.1 h1;exact⟨h.pn (c:=98) (k:=0) de de de,v,hv,e⟩
theorem Sn.cht(h:Sn F x ct np σ)(h0:0<ct.tables):σ.Ch nT0 3:=by
 have hi:=h.ok.ints;have ht:=h.ok.tables;have h1:=aHv ct.ints om;rw[show(1:Nat)=ct.tables by omega,←h.vs]at h1;obtain⟨v,hv,e⟩:=aPy.1 h1;exact⟨h.pn (c:=116) (k:=0) de de de,v,hv,e⟩
theorem Scp.Ch.nm{s:yB}{t:Nat}(h:σ.Ch s t)(ht:t≠3):σ.Nm s t:=by
 obtain⟨h1,v,h2,h3⟩:=h;exact .inr (.inl ⟨h1,v,h2,by rw[h3];exact ht,h3.symm⟩)
theorem Sn.nmp(h:Sn F x ct np σ){k:Nat}(hk:k<np):σ.Nm (nm 112 k) 1:=by
 have:=h.n2;refine .inl ⟨?_,rfl⟩;rw[h.ps,Ud de om hk 0];rfl
theorem Sn.nmf(h:Sn F x ct np σ){k:Nat}(hk:k<ct.flags):σ.Nm (nm 102 k) 2:=by
 have hi:=h.ok.ints;have ht:=h.ok.tables;have hf:=h.ok.flags;have h1:=aHw ct.ints om ct.tables om k om;rw[←h.vs]at h1;refine .inr (.inr ⟨h.pn de om de,Option.isNone_iff_eq_none.1 h1,?_,rfl⟩);rw[h.fl,Ud de om hk 0];rfl
theorem ty0{σ:Scp}{o:Nat}{s:yB}{n:Int}{t:Nat}(ho:OpT σ o s 0 t):PE.Ty σ ⟨o,s,n,[]⟩ t:=⟨0,trivial,fun _=>rfl,ho⟩
theorem ty1{σ:Scp}{o:Nat}{s:yB}{n:Int}{u t:Nat}{a:PE}(ha:a.Ty σ u)(ho:OpT σ o s u t):PE.Ty σ ⟨o,s,n,[a]⟩ t:=⟨u,⟨ha,trivial⟩,fun h=>aPu h (show¬1=0 by decide),ho⟩
theorem ty2{σ:Scp}{o:Nat}{s:yB}{n:Int}{u t:Nat}{a b:PE}(ha:a.Ty σ u)(hb:b.Ty σ u)(ho:OpT σ o s u t):PE.Ty σ ⟨o,s,n,[a,b]⟩ t:=⟨u,⟨ha,hb,trivial⟩,fun h=>aPu h (by show¬2=0;decide),ho⟩
theorem Kv.ty(h:Sn F x ct np σ){d:Nat}{e:PE}(he:Kv ct np d e):e.Ty σ 1:=by
 induction he with
 |num d n hn=>exact ty0 ⟨by omega,by omega,by omega⟩
 |var d k hk=>exact ty0 ⟨by omega,fun _=>(h.chx hk).nm de,by omega⟩
 |par d k hk=>exact ty0 ⟨by omega,fun _=>h.nmp hk,by omega⟩
 |now d=>exact ty0 ⟨by omega,by omega,by omega⟩
 |get d e ht he ih=>exact ty1 ih ⟨by omega,by omega,fun _=>h.cht ht⟩
 |size d ht=>exact ty0 ⟨by omega,by omega,fun _=>h.cht ht⟩
 |neg d e he ih=>exact ty1 ih ⟨by omega,by omega,by omega⟩
 |bin d op a b ho ha hb iha ihb=>exact ty2 iha ihb ⟨by omega,by omega,by omega⟩
theorem Pn.ty(h:Sn F x ct np σ){d:Nat}{e:PE}(he:Pn ct np d e):e.Ty σ 2:=by
 induction he with
 |tf d op ho=>exact ty0 ⟨by omega,by omega,by omega⟩
 |b0 d=>exact ty0 ⟨by omega,fun _=>h.chb.nm de,by omega⟩
 |flag d k hk=>exact ty0 ⟨by omega,fun _=>h.nmf hk,by omega⟩
 |has d e ht he=>exact ty1 (he.ty h) ⟨by omega,by omega,fun _=>h.cht ht⟩
 |not d e he ih=>exact ty1 ih ⟨by omega,by omega,by omega⟩
 |two d op a b ho ha hb iha ihb=>exact ty2 iha ihb ⟨by omega,by omega,by omega⟩
 |cmp d op a b ho ha hb=>exact ty2 (ha.ty h) (hb.ty h) ⟨by omega,by omega,by omega⟩
theorem OX{σ:Scp}{u:Nat}{a:PE}(h:a.Ty σ u):Ot σ [a] u:=⟨h,trivial⟩
theorem aMd{σ:Scp}{u:Nat}{a b:PE}(h:a.Ty σ u)(k:b.Ty σ u):Ot σ [a,b] u:=⟨h,k,trivial⟩
theorem StE.ty(h:Sn F x ct np σ){d:Nat}{s:PS}(hs:StE ct np d s):s.Ty F x σ:=by
 induction hs with
 |setB d e he=>exact⟨⟨fun _=>⟨2, .inr rfl,h.chb,OX (he.ty h)⟩,by omega,by omega,by omega,by omega,by omega,by omega⟩,trivial,trivial⟩
 |setX d k e hk he=>exact⟨⟨fun _=>⟨1, .inl rfl,h.chx hk,OX (he.ty h)⟩,by omega,by omega,by omega,by omega,by omega,by omega⟩,trivial,trivial⟩
 |put d a b ht ha hb=>exact⟨⟨by omega,fun _=>h.cht ht,by omega,fun _=>aMd (ha.ty h) (hb.ty h),by omega,by omega,by omega⟩,trivial,trivial⟩
 |del d a ht ha=>exact⟨⟨by omega,fun _=>h.cht ht,by omega,fun _=>OX (ha.ty h),by omega,by omega,by omega⟩,trivial,trivial⟩
 |ife d e t l he ht hl iht ihl=>exact⟨⟨by omega,by omega,by omega,by omega,fun _=>OX (he.ty h),by omega,by omega⟩,Qh iht,Qh ihl⟩
 |whl d e t he ht iht=>exact⟨⟨by omega,by omega,by omega,by omega,fun _=>OX (he.ty h),by omega,by omega⟩,Qh iht,trivial⟩
 |send d to k a l ha hh hl=>exact⟨⟨by omega,by omega,by omega,fun _=>gQ fun e he=>(hl e he).ty h,by omega,fun _=>h.to to a k _ ha hh,by omega⟩,trivial,trivial⟩
 | after d k a e l ha hh he hl=>
   refine⟨⟨by omega,by omega,by omega,fun _=>⟨he.ty h,gQ fun e he=>(hl e he).ty h⟩,by omega,by omega,fun _=>?_⟩,trivial,trivial⟩;obtain⟨h',h1,h2⟩:=h.me a k _ ha hh;exact⟨h',h1,by rw[bi,h2]⟩
 |store d a b l ha hb hl ihl=>exact⟨⟨by omega,by omega,by omega,fun _=>aMd (ha.ty h) (hb.ty h),by omega,by omega,by omega⟩,trivial,Qh ihl⟩
 |fetch d k e l hk he hl ihl=>exact⟨⟨by omega,by omega,fun _=>h.chx hk,fun _=>OX (he.ty h),by omega,by omega,by omega⟩,trivial,Qh ihl⟩
 |stop d=>exact⟨⟨by omega,by omega,by omega,by omega,by omega,by omega,by omega⟩,trivial,trivial⟩
end
structure TyH(F:Fl)(x:Cm)(h:Hd):Prop where
 ps:∀k p,h.ps[k]?=some p→fdV x.vars p=none∧ixF p 0 (F.flags.map Fg.name)=none∧ixF p 0 (h.ps.take k)=none
 body:Mh F x ⟨F.Af,F.qf,F.flags,x.Av,x.qv,x.vars,h.Ap,h.qp,h.ps⟩ (Am h.body)
structure TyC(F:Fl)(i:Nat)(x:Cm):Prop where
 new:fdC (F.comps.take i) x.name=none
 nfl:ixF x.name 0 (F.flags.map Fg.name)=none
 var:∀k v,x.vars[k]?=some v→fdV (x.vars.take k) v.name=none∧ixF v.name 0 (F.flags.map Fg.name)=none
 hd:∀n v,x.vers[n]?=some v→∀k h,v.l[k]?=some h→(v.l.take k).find? (fun y:Hd=>decide (y.name=h.name))=none∧(∀h',fdH (x.vers.take n) h.name=some h'→h'.ps.length=h.ps.length)∧TyH F x h
structure TyF(F:Fl):Prop where
 fl:∀k z,F.flags[k]?=some z→ixF z.name 0 ((F.flags.take k).map Fg.name)=none
 lk:∀z∈F.links,(∃c,fdC F.comps z.src=some c)∧∃c,fdC F.comps z.dst=some c
 ln:∀k z,F.links[k]?=some z→∀y∈F.links.take k,¬(y.src=z.src∧y.dst=z.dst)
 comp:∀i c,F.comps[i]?=some c→TyC F i c
theorem AP{F:Fl}{x:Cm}{ct:Ct}{ar:List Nat}{i:Nat}(ok:OkC F.pure i x.pure ct ar){h:Hd}{s:yB}{l:List Vs}(hl:∀v∈l,v∈x.vers)(hf:fdH l s=some h):∃k np,s=nm 104 k∧k<3∧ar[k]?=some np∧h.ps=nms 112 np:=by
 have hn:h.name=s:=by simpa using List.find?_some hf
 obtain⟨v,hv,hm⟩:=aQe.1 (List.mem_of_find?_eq_some hf);obtain⟨k,hk⟩:=aRb hm;have gv:=ok.vers v.pure (aPx.2 ⟨v,hl v hv,rfl⟩);have gh:=gv.2.2 k h.pure (by show(v.l.map Hd.pure)[k]?=_;rw[aPs,hk];rfl);obtain⟨np,h1,h2,_⟩:=gh.ps;have h3:h.name=nm 104 k:=gh.name;have har:=ok.ok.each ar (av ok.arr);have:=(aOz.1 h1).1;exact⟨k,np,by rw[←hn,h3],by omega,h1,h2⟩
theorem VX{F:Fl}{x:Cm}{ct:Ct}{ar:List Nat}{i:Nat}(ok:OkC F.pure i x.pure ct ar)(hx:∃v∈x.pure.vers,v.length=ar.length){k n:Nat}(hk:ar[k]?=some n):∃h',fdH x.vers (nm 104 k)=some h'∧n=h'.ps.length:=by
 obtain⟨v,hv,hvl⟩:=hx;obtain⟨v,hv2,rfl⟩:=aPx.1 (show v∈x.vers.map Vs.pure from hv);have hkl:=(aOz.1 hk).1;have hpl:v.pure.length=v.l.length:=aPg ..;have gv:=ok.vers v.pure hv;have hh:v.l[k]?=some (v.l[k]'om):=gge _;have gh:=gv.2.2 k _ (by show(v.l.map Hd.pure)[k]?=_;rw[aPs,hh];rfl);have hsome:(fdH x.vers (nm 104 k)).isSome=true:=by
  unfold fdH;rw[List.find?_isSome];exact⟨_,aQe.2 ⟨v,hv2,av hh⟩,aQg gh.name⟩
 obtain⟨h',hf⟩:=aRq.1 hsome;obtain⟨j,np,e,hj,h1,h2⟩:=AP ok (fun _ h=>h) hf;have har:=ok.ok.each ar (av ok.arr);have e2:=(Po de de om om e).2;subst e2;rw[hk]at h1;exact⟨h',hf,by rw[h2,Dn];exact aPq h1⟩
theorem Ji.okA{f:PF}(h:Ji f):∃ars,zG ars∧f.comps.length=ars.length∧∀i c,f.comps[i]?=some c→∃ct ar,OkC f i c ct ar∧ct.ars=ars∧∃v∈c.vers,v.length=ar.length:=by
 obtain⟨ars,ho,hl,hg⟩:=h.comps;refine⟨ars,ho,hl,fun i c hc=>?_⟩;have g:=hg i c hc;obtain⟨ints,tables,ar,hi,ht,ha,hv,hvs,hvn,hx⟩:=g.vers;obtain⟨ar',ha',hn⟩:=g.hnames ho;have:ar'=ar:=by rw[ha]at ha';exact(aPq ha').symm
 subst this;refine⟨⟨ints,tables,f.flags.length,i,ars⟩,ar',⟨⟨hi,ht,h.flags.1,(aOz.1 ha).1,ho.1.2,ho.2⟩,rfl,ha,h.flags.2,hv,g.name,hvs,hn,fun to a x n h1 h2=>?_,fun to hto=>?_,fun to a h1=>?_⟩,rfl,hx⟩
 · have h7:to<ars.length:=(aOz.1 h1).1
   have h8:=ho.1.2;exact nU ho h1 h2 f.comps 0 om om om fun j c hj=>by rw[aQl];exact hg j c hj
 · have hto:to<ars.length:=hto
   exact zN h om
 · have hlt:to<f.comps.length:=by rw[hl];exact(aOz.1 h1).1
   obtain⟨a2,hb,hn2⟩:=(hg to _ (gge hlt)).hnames ho;rw[aPs,gge hlt];rw[h1]at hb;rw[aPq hb];exact aPe some hn2
theorem tyF{F:Fl}(h:Ji F.pure):TyF F:=by
 obtain⟨ars,ho,hl,hA⟩:=h.okA;have hcl:F.comps.length=ars.length:=by have h1:(F.comps.map Cm.pure).length=ars.length:=hl;rwa[aPg]at h1
 have hpi:∀(i:Nat) (c:Cm),F.comps[i]?=some c→F.pure.comps[i]?=some c.pure:=fun i c hc=>by
  show(F.comps.map Cm.pure)[i]?=_;rw[aPs,hc];rfl
 have hnc:∀(i:Nat) (c:Cm),F.comps[i]?=some c→c.name=nC i:=fun i c hc=>by
  obtain⟨_,_,ok,_⟩:=hA i _ (hpi i c hc);exact ok.name
 have h3:=ho.1.2;have hdc:Dis Cm.name F.comps:=Dis.of fun i j x y hij hx hy e=>by
  have hj:=(aOz.1 hy).1;rw[hnc i x hx,hnc j y hy]at e;have:=nT om om e;omega
 have hfl:F.flags.map Fg.name=nms 102 F.flags.length:=h.flags.2;have hf2:F.flags.length≤2:=h.flags.1;have hdf:Dis Fg.name F.flags:=Dis.nms de om hfl;have hto:∀i,i<F.comps.length→∃c,F.comps[i]?=some c∧fdC F.comps (nC i)=some c:=fun i hi=>by
  have hc:=gge hi;refine⟨_,hc,?_⟩;rw[←hnc i _ hc];exact hdc.fs hc
 refine⟨fun k z hz=>hdf.ix hz,fun z hz=>?_,fun k z hz y hy e=>?_,fun i x hx=>?_⟩
 · obtain⟨i,j,hi,hj,e1,e2,_⟩:=h.links.2.1 z hz
   have hp:F.pure.comps.length=F.comps.length:=aPg ..;obtain⟨c,_,hc⟩:=hto i om;obtain⟨d,_,hd⟩:=hto j om;rw[e1,e2];exact⟨⟨c,hc⟩,d,hd⟩
 · obtain⟨i,hi⟩:=aRb hy
   have hik:i<k:=by have:=(aOz.1 hi).1;rw[aPo]at this;omega
   rw[aSc hik]at hi;have hnd:(F.links.map fun x=>(x.src,x.dst)).Nodup:=h.links.2.2;obtain⟨hi1,hi2⟩:=aOz.1 hi;obtain⟨hk1,hk2⟩:=aOz.1 hz;have:=List.pairwise_iff_getElem.1 hnd i k (by rw[aPg];exact hi1) (by rw[aPg];exact hk1) hik;rw[List.getElem_map,List.getElem_map,hi2,hk2,e.1,e.2]at this;exact this rfl
 · obtain⟨ct,ar,ok,hars,hfull⟩:=hA i _ (hpi i x hx)
   have hil:i<F.comps.length:=(aOz.1 hx).1;have hcv:x.vars=varsOf ct.ints ct.tables:=ok.vars;have hci:=ok.ok.ints;have hct:=ok.ok.tables;have hcf:=ok.ok.flags;have hcfl:F.flags.map Fg.name=nms 102 ct.flags:=ok.flags;have hdv:Dis Vr.name x.vars:=Dis.of (KM (by rw[hcv];exact VW _ om _ om));have har:=ok.ok.each ar (av ok.arr);refine⟨hdc.fd hx,?_,fun k v hv=>⟨hdv.fd hv,?_⟩,fun n v hv k y hy=>?_⟩
   ·rw[hcfl,hnc i x hx];exact Lt (aCs i om _ om)
   · rw[hcfl]
     refine Lt ?_;have:=aRd.1 (aCr ct.ints om ct.tables om ct.flags om) v (by rw[←hcv];exact av hv);simpa using this
   · have gv:=ok.vers v.pure (aPx.2 ⟨v,av hv,rfl⟩)
     have gn:∀j z,v.l[j]?=some z→aG ct ar j z.pure:=fun j z hz=>gv.2.2 j z.pure (by show(v.l.map Hd.pure)[j]?=_;rw[aPs,hz];rfl);have hpl:v.pure.length=v.l.length:=aPg ..;have gl:=gv.2.1;have hdh:Dis Hd.name v.l:=Dis.of fun i j x y hij hx hy e=>by
      have hj:=(aOz.1 hy).1;have e1:x.name=nm 104 i:=(gn i x hx).name;have e2:y.name=nm 104 j:=(gn j y hy).name;rw[e1,e2]at e;have:=(Po de de om om e).2;omega
     have hyl:=(aOz.1 hy).1;obtain⟨np,hnp,hps,hst⟩:=(gn k y hy).ps;have hps:y.ps=nms 112 np:=hps;have hnp2:np≤2:=har.2.2 np (av hnp);have hyn:y.name=nm 104 k:=(gn k y hy).name;refine⟨hdh.fd hy,fun h' hf=>?_,fun j p hp=>?_,Qh fun s hs=>?_⟩
     · obtain⟨j,mp,e,hj,h1,h2⟩:=AP ok (fun v hv=>aRc hv) hf
       rw[hyn]at e;have e2:=(Po de de om om e).2;subst e2;rw[hnp]at h1;rw[h2,hps,aPq h1]
     · have hjl:=(aOz.1 hp).1
       have hdp:Dis (fun s:yB=>s) y.ps:=Dis.nms (c:=112) (n:=np) de om (by rw[List.map_id'];exact hps);have hix:=hdp.ix hp;rw[List.map_id']at hix;have hjn:j<np:=by rw[hps,Dn]at hjl;exact hjl
       have hpe:p=nm 112 j:=by
        rw[hps,Ed hjn]at hp;exact(aPq hp).symm
       refine⟨?_,?_,hix⟩
       ·rw[hcv,hpe];exact Option.isNone_iff_eq_none.1 (aHx _ om _ om j om)
       ·rw[hcfl,hpe];exact Lt (Rp de de om om de)
     · refine StE.ty (ct:=ct) (np:=np) ⟨ok.ok,hnp2,hcfl,hcv,hps,fun to a q m h1 h2=>?_,fun a q m h1 h2=>?_⟩ (hst s hs)
       · rw[hars]at h1
         obtain⟨c,hc,hfc⟩:=hto to (by rw[hcl];exact(aOz.1 h1).1);obtain⟨ct2,ar2,ok2,hars2,hfull2⟩:=hA to _ (hpi to c hc);have h4:=ok2.arr;rw[hars2,h1]at h4;obtain rfl:=aPq h4;obtain⟨h',h5,h6⟩:=VX ok2 hfull2 h2;exact⟨c,h',hfc,h5,h6⟩
       · rw[ok.own,ok.arr]at h1
         obtain rfl:=aPq h1;exact VX ok hfull h2
theorem VY{P:pG}{f:FuncId}{args:List vU}{Γ Γ':List Ad}{R:vU→List Ad→Prop}(h:∀(C:Cx) (ρ:Bo) (K:Act→wD→Prop),To C ρ Γ' K→To C ρ Γ K)(k:Bg P f args Γ' R):Bg P f args Γ R:=fun w hs=>by
 have h1:Dk Γ Γ' w w:=h ⟨0,Γ,w,[]⟩ [] (fun _ w'=>w'=w→Dk Γ Γ' w w) (fun _ w' _ hp e=>by subst e;exact hp) _ w (Yz [] 0 rfl) (Dk.refl hs) rfl;exact(k w h1.sat).mono fun e w' ⟨v,Γ2,h2,h3,h4⟩=>⟨v,Γ2,h2,h3,h1.trans h4⟩
theorem AQ(bc:Nat)(F:Fl)(hF:Nk F)(hCap:F.Cap)(i:Nat)(x:Cm)(hx:F.comps[i]?=some x)(hcg:x.Good)(n:Nat)(v:Vs)(hv:x.vers[n]?=some v)(m:Nat)(h:Hd)(hh:v.l[m]?=some h)(hg:h.Good)(hT:TyH F x h)(hσ:Scp.Low ⟨F.Af,F.qf,F.flags,x.Av,x.qv,x.vars,h.Ap,h.qp,h.ps⟩)(hqp:h.ps.length≤h.qp)(w ver:yB)(hver:ver.size≤30):
    Dz 131 [pv bc, .agg (Gm x).toArray, .agg (Ii h).toArray, .string ver] [box bc (cF F [.string w, .string nE, .string nE,iv 0]) 192,all (F.kids eX),p10c] (fun v Γ'=>∃w':yB,v= .tuple #[]∧Γ'=[box bc (cF F [.string w', .string nE, .string nE,iv 0]) 192]):=by
 have hps:=hg.ps;have hsl:h.ps.length≤2:=hσ.p;have hsv:x.vars.length≤5:=hσ.v;have hsf:F.flags.length≤2:=hσ.f;have hs1:=Gj hcg.nm;have hs2:=Gj hg.nm;have hz1:(fT [115,116,97,116,101,109,101,110,116,32]).size=10:=rfl;have hz2:(fT [46]).size=1:=rfl;have hz3:(fT [32]).size=1:=rfl;refine Ba func131 ntmps131 fun w0=>?_;refine Js (dh (Jbo fun b5=>?_));refine Jbo fun b6=>?_;refine Jz 4 ?_;refine bz 3 rfl (ros Hg x.Av x.vars) rfl (Dg hx _ Kj) (bz 4 rfl (ros Gh F.Af F.flags) rfl (Nh (k:=eX)) (bz 5 rfl (ros Dc h.Ap h.ps) rfl (Dg hx _ (Ir hv _ (Tt hh _ Zn))) (Jz 8 ?_)));refine Bz (fun s g mz ρ Γ=>∃(k:Nat),ρ=[s 0,s 3,s 5,s 6,s 14,s 15,(16,nv k)]∧Γ=[g 5,g 4,g 3,g 6,p10c,g 2,g 1,g 0]∧mz=h.ps.length-k∧(k≤h.ps.length)) ⟨⟨0,rfl,rfl,rfl,om⟩,sb⟩ ?_;rintro mz _ _ ⟨k,rfl,rfl,rfl,hk⟩;refine Jz 6 ?_;refine ax rfl ?_ ?_<;>intro k17;obtain⟨p,hp⟩:=bq h.ps k om;obtain⟨hp1,hp2,hp3⟩:=hT.ps k p hp;have htl:(h.ps.take k).length=k:=by rw[aPo];omega
 have hct:=Tx h.Ap h.qp (h.ps.take k) p none om hp3
 (try unfold vs at hct);rw[htl]at hct
 refine Jz 18 ?_;refine Jvf (kE x.Av x.qv x.vars p none om hp1) rfl (ag (au 5 rfl) (af _)) ?_;refine Jz 3 ?_;refine ay fun b10=>?_;refine Jz 4 ?_;refine To.take k 8 rfl (Jz 11 ?_);refine Jvf (Uu F.Af F.qf F.flags p none om hp2) rfl (ag (au 8 rfl) (af _)) ?_;refine Jz 6 ?_;refine Jr (Gq (hi:=k) rfl s54 rfl rfl om) ?_;refine Jm ?_;refine Jvf (hct) rfl (ag (au 0 rfl) (af _)) ?_;refine Jz 3 ?_;refine az [2] (Hm bc F w p 5) ?_;rintro _ _ ⟨rfl,rfl⟩;refine Jz 8 ?_;refine Bp ⟨⟨k+1,rfl,rfl,rfl,om⟩,sb⟩;refine Jz 6 ?_;refine Jfw [] [0,2,3,4,5,7,9,101,106,108,110,11,12,213,14014] (af _) ?_;refine Jz 11 ?_;refine di rfl (.bd [vs F.Af F.flags F.qf,vs x.Av x.vars x.qv,vs h.Ap h.ps h.qp]) ?_;refine di rfl (.bd [pv bc,vs F.Af F.flags F.qf,vs x.Av x.vars x.qv,vs h.Ap h.ps h.qp, .string x.name,vs x.Av x.vars x.qv,vs x.An x.vers x.qn, .string bE,iv 0]) ?_;refine Fw.mk rfl rfl rfl rfl rfl (Mk.box rfl rfl rfl) ?_;rintro _ _ ⟨b66,rfl,rfl⟩;refine Jz 8 ?_;refine Jr (Dl (a:=(fT [115,116,97,116,101,109,101,110,116,32])) (b:=x.name) rfl rfl rfl (by first|omega|(simp only[aPa];omega))) ?_;refine Jr (Dl (a:=((fT [115,116,97,116,101,109,101,110,116,32])++x.name)) (b:=(fT [46])) rfl rfl rfl (by first|omega|(simp only[aPa];omega))) ?_;refine Jz 2 ?_;refine Jr (Dl (a:=(((fT [115,116,97,116,101,109,101,110,116,32])++x.name)++(fT [46]))) (b:=h.name) rfl rfl rfl (by first|omega|(simp only[aPa];omega))) ?_;refine Jm ?_;refine Jr (Dl (a:=((((fT [115,116,97,116,101,109,101,110,116,32])++x.name)++(fT [46]))++h.name)) (b:=ver) rfl rfl rfl (by first|omega|(simp only[aPa];omega))) ?_;refine Jr (Dl (a:=(((((fT [115,116,97,116,101,109,101,110,116,32])++x.name)++(fT [46]))++h.name)++ver)) (b:=(fT [32])) rfl rfl rfl (by first|omega|(simp only[aPa];omega))) ?_;refine Jz 5 ?_;refine Cg 4 rfl (lsG Be Ca h.Ab h.body) (Dj _ _ _ _) (fun z hz=>Dg hx _ (Ir hv _ (Tt hh _ (Qf (k:=eX) z hz)))) (Jz 4 ?_);refine az [1,1,0,5,4,4,2,2] (oK b66 bc F x ⟨F.Af,F.qf,F.flags,x.Av,x.qv,x.vars,h.Ap,h.qp,h.ps⟩ hσ ((((((fT [115,116,97,116,101,109,101,110,116,32])++x.name)++(fT [46]))++h.name)++ver)++(fT [32])) (by simp only[aPa];omega) hF i hx h.body h.Ab h.qb 0 w hg.len hg.low hT.body (by have:=hg.cnt;omega)) ?_;rintro _ _ ⟨w2,rfl,rfl⟩;refine Jn (Da (Ck (Cq (Dx (.inr rfl) results131 ?_))));exact⟨_,rfl,rfl⟩
theorem VZ(bc:Nat)(F:Fl)(hF:Nk F)(hCap:F.Cap)(hT:TyF F)(w:yB):
    Dz 83 [pv bc] [box bc (cF F [.string w, .string nE, .string nE,iv 0]) 192,all (F.kids eX)] (fun v Γ'=>∃w':yB,v= .tuple #[]∧Γ'=[box bc (cF F [.string w', .string nE, .string nE,iv 0]) 192]):=by
 have hF2:=hF.flags;have hcp:=hCap.1.1;have hz1:(fT [102,108,97,103,32]).size=5:=rfl;refine Ba func83 ntmps83 fun w0=>?_;refine Js (bz 1 rfl (ros Gh F.Af F.flags) rfl (Nh (k:=eX)) (Jz 11 ?_));refine Bz (fun s g mz ρ Γ=>∃(ww:yB) (k:Nat),ρ=[s 0,s 8,s 9,(10,nv k)]∧Γ=[box bc (cF F [.string ww, .string nE, .string nE,iv 0]) 192,g 0]∧mz=F.flags.length-k∧(k≤F.flags.length)) ⟨⟨w,0,rfl,rfl,rfl,om⟩,sb⟩ ?_;rintro mz _ _ ⟨ww,k,rfl,rfl,rfl,hk⟩;refine Jz 6 ?_;refine ax rfl ?_ ?_<;>intro k11;obtain⟨z,hz⟩:=bq F.flags k om;have htl:(F.flags.take k).length=k:=by rw[aPo];omega
 have hs1:=Gj (hF.flag z (av hz));have hff:=Uu F.Af F.qf (F.flags.take k) z.name none om (hT.fl k z hz)
 (try unfold vs at hff);rw[htl]at hff
 refine Jz 9 ?_;refine ay fun b3=>?_;refine Jz 10 ?_;refine Jr (Dl (a:=(fT [102,108,97,103,32])) (b:=z.name) rfl rfl rfl (by first|omega|(simp only[aPa];omega))) ?_;refine az [1] (sG bc F ww ((fT [102,108,97,103,32])++z.name)) ?_;rintro _ _ ⟨rfl,rfl⟩;refine Jz 6 ?_;refine To.take k 2 rfl (Jfw [] [0,1,2,3,4,6,8,12,105,7,109,310,11,113,514] (af _) ?_);refine Jz 9 ?_;refine di rfl (Gq (hi:=k) rfl s70 rfl rfl om) ?_;refine Jz 1 ?_;refine Fw.qf (hff) (ag (au 0 rfl) (af _)) ?_;refine Jz 2 ?_;refine Du [1] (Hm bc F ((fT [102,108,97,103,32])++z.name) z.name 5) ?_;rintro _ _ ⟨rfl,rfl⟩;refine⟨af _,?_⟩;refine Jz 8 ?_;refine Bp ⟨⟨((fT [102,108,97,103,32])++z.name),k+1,rfl,rfl,rfl,om⟩,sb⟩;refine Jz 4 ?_;refine Cr (Dx (.inr rfl) results83 ?_);exact⟨_,rfl,rfl⟩
theorem aHy{z1 z2 y:yB}{j:Nat}(h:[z1,z2][j]?=some y):y=z1∨y=z2:=by
 have:=av h;simpa using this
theorem WA(bc:Nat)(F:Fl)(hF:Nk F)(hCap:F.Cap)(hT:TyF F)(w:yB):
    Dz 84 [pv bc] [box bc (cF F [.string w, .string nE, .string nE,iv 0]) 192,all (F.kids eX)] (fun v Γ'=>∃w':yB,v= .tuple #[]∧Γ'=[box bc (cF F [.string w', .string nE, .string nE,iv 0]) 192]):=by
 have hF2:=hF.links;have hFc:=hF.comps;have hcp:=hCap.1.2.1;have hzz:∀a b:yB,[a,b].length=2:=fun _ _=>rfl;have hz1:(fT [108,105,110,107,32]).size=5:=rfl;have hz2:(fT [32]).size=1:=rfl;refine Ba func84 ntmps84 fun w0=>?_;refine Js (bz 1 rfl (ros Jv F.Al F.links) rfl (Oq (k:=eX)) (bz 2 rfl (ros Gm F.Ac F.comps) rfl (En (k:=eX)) (Jz 11 ?_)));refine Bz (fun s g mz ρ Γ=>∃(ww:yB) (k:Nat),ρ=[s 0,s 13,s 14,(15,nv k)]∧Γ=[box bc (cF F [.string ww, .string nE, .string nE,iv 0]) 192,g 1,g 0]∧mz=F.links.length-k∧(k≤F.links.length)) ⟨⟨w,0,rfl,rfl,rfl,om⟩,sb⟩ ?_;rintro mz _ _ ⟨ww,k,rfl,rfl,rfl,hk⟩;refine Jz 6 ?_;refine ax rfl ?_ ?_<;>intro k16;obtain⟨z,hz⟩:=bq F.links k om;have hzm:=av hz;have htl:(F.links.take k).length=k:=by rw[aPo];omega
 have hs1:=Gj (hF.link z hzm).1;have hs2:=Gj (hF.link z hzm).2.1;obtain⟨⟨c1,hc1⟩,c2,hc2⟩:=hT.lk z hzm;refine Jz 9 ?_;refine ay fun b3=>?_;refine Jz 10 ?_;refine Jr (Dl (a:=(fT [108,105,110,107,32])) (b:=z.src) rfl rfl rfl (by first|omega|(simp only[aPa];omega))) ?_;refine Jr (Dl (a:=((fT [108,105,110,107,32])++z.src)) (b:=(fT [32])) rfl rfl rfl (by first|omega|(simp only[aPa];omega))) ?_;refine Jz 2 ?_;refine Jr (Dl (a:=(((fT [108,105,110,107,32])++z.src)++(fT [32]))) (b:=z.dst) rfl rfl rfl (by first|omega|(simp only[aPa];omega))) ?_;refine az [1] (sG bc F ww ((((fT [108,105,110,107,32])++z.src)++(fT [32]))++z.dst)) ?_;rintro _ _ ⟨rfl,rfl⟩;refine Jz 13 ?_;refine Er [.string z.src, .string z.dst] fun b34=>?_;refine Jz 5 ?_;refine Dt (enc:=Dc) (l:=[z.src,z.dst]) (Bz (fun s g mz ρ Γ=>∃(wj:yB) (j:Nat),ρ=[s 0,s 13,s 14,s 15,s 2,s 3,s 34,s 35,(36,nv j)]∧Γ=[box bc (cF F [.string wj, .string nE, .string nE,iv 0]) 192,g 3,g 4,g 2,g 0]∧mz=2-j∧(j≤2)) ⟨⟨_,0,rfl,rfl,rfl,om⟩,sb⟩ ?_);rintro mz _ _ ⟨wj,j,rfl,rfl,rfl,hj⟩;refine Jz 6 ?_;refine ax rfl ?_ ?_<;>intro k37;have hz2l:=hzz z.src z.dst;obtain⟨y,hy⟩:∃z0,[z.src,z.dst][j]?=some z0:=⟨[z.src,z.dst][j]'om,gge _⟩
 obtain⟨cy,hcy⟩:∃cy,fdC F.comps y=some cy:=by
  rcases aHy hy with e|e
  ·rw[e];exact⟨c1,hc1⟩
  ·rw[e];exact⟨c2,hc2⟩
 refine Jz 19 ?_;refine Jvf (oG F.Ac F.qc F.comps y cy om hcy) rfl (ag (au 2 rfl) (af _)) ?_;refine Jz 3 ?_;refine ay fun b6=>?_;refine Jz 8 ?_;refine az [1] (Hm bc F wj y 9) ?_;rintro _ _ ⟨rfl,rfl⟩;refine Jz 8 ?_;refine Bp ⟨⟨wj,j+1,rfl,rfl,rfl,om⟩,sb⟩;refine Jz 6 ?_;refine Fv (Zd (dh (Jr (Rd.makeFunc rfl rfl rfl) ?_)));refine Jz 3 ?_;have hcl:=wO b3 z F.Al F.ql (F.links.take k) om (hT.ln k z hz)
 (try unfold vs at hcl);rw[htl]at hcl
 refine To.take k 2 rfl (Jfw [] [0,1,2,3,4,6,8,11,105,7,309,10,112,513] (af _) ?_);refine Jz 9 ?_;refine di rfl (Gq (hi:=k) rfl s71 rfl rfl om) ?_;refine Fw.qf (hcl) (ag (au 0 rfl) (ag (au 1 rfl) (af _))) ?_;refine Jz 1 ?_;refine Ld rfl (Cu (i:=1) rfl rfl c9 rfl (Eb (A:=some ⟨b3,0,none⟩) (o:=0) (k:=1) rfl)) ?_;refine Du [2] (Hm bc F wj z.src 5) ?_;rintro _ _ ⟨rfl,rfl⟩;refine⟨af _,?_⟩;refine Jz 8 ?_;refine Bp ⟨⟨wj,k+1,rfl,rfl,rfl,om⟩,sb⟩;refine Jz 4 ?_;refine Ck (Cr (Dx (.inr rfl) results84 ?_));exact⟨_,rfl,rfl⟩
theorem OY{B:OA}(v:Vs)(k:Nat)(s:yB)(hk:k≤v.l.length)(h3:v.l.length≤3)(hn:(v.l.take k).find? (fun y:Hd=>decide (y.name=s))=none):
    Dz 130 [.slice B 1 1, .string s] [ro B [.slice v.A k v.q],all (v.kids eX)] (fun r Γ'=>r= .tuple #[.agg (Ii zH).toArray,bf]∧Γ'=[]):=by
 have hl:(v.l.take k).length=k:=by rw[aPo];omega
 have h0:fdH [⟨v.A,v.q,v.l.take k⟩] s=none:=by unfold fdH;rw[aQq,List.flatMap_nil,aPw];exact hn
 have hd:=oF B 1 [⟨v.A,v.q,v.l.take k⟩] s none (show 1≤12 by decide) (fun x hx=>by rw[aPj.1 hx];show(v.l.take k).length≤3;omega) h0;refine VY (fun C ρ K kk=>?_) hd;have e:ro B [.slice v.A k v.q]=ros Fq B [(⟨v.A,v.q,v.l.take k⟩:Vs)]:=by show _=ro B [.slice v.A (v.l.take k).length v.q];rw[hl]
 rw[e];refine bz 1 rfl (ros Ii v.A v.l) rfl (aPc ..) (To.take k 0 rfl (Cg 3 rfl ((v.l.take k).flatMap (Hd.kids eX)) (Gt fun h _=>h.lax eX) (fun c hc=>?_) ?_))
 · obtain⟨h,hh,hc⟩:=aQe.1 hc
   exact aPb _ (aQe.2 ⟨h,aRc hh,hc⟩)
 refine cz (aQn _ _ _) (Cz (Ih (To.drop (Γ:=[ros Fq B [(⟨v.A,v.q,v.l.take k⟩:Vs)],all _]) (Δ:=[_,_]) ?_)));have e2:[(⟨v.A,v.q,v.l.take k⟩:Vs)].flatMap (Vs.kids eX)=ros Ii v.A (v.l.take k)::(v.l.take k).flatMap (Hd.kids eX):=by rw[aQq,List.flatMap_nil,aPw];rfl
 rw[e2]at kk;exact kk
theorem aCt(bc:Nat)(F:Fl)(hF:Nk F)(hCap:F.Cap)(i:Nat)(x:Cm)(hx:F.comps[i]?=some x)(hcg:x.Good)(hT:TyC F i x)(w:yB):
    Dz 85 [pv bc,nv i] [box bc (cF F [.string w, .string nE, .string nE,iv 0]) 192,all (F.kids eX),p10c] (fun v Γ'=>∃w':yB,v= .tuple #[]∧Γ'=[box bc (cF F [.string w', .string nE, .string nE,iv 0]) 192]):=by
 have hFc:=hF.comps;have hFf:=hF.flags;have hxv:=hcg.vars;have hxn:=hcg.vers2;have hil:i<F.comps.length:=(aOz.1 hx).1;have hs1:=Gj hcg.nm;have hcf:=hCap.1;have hCc:=hCap.2 x (av hx);have hCq:=hCc.1;have hil2:∀n:Nat,n≤3→(Lib.itoa (((n+1:Nat):Nat):Int)).length≤20:=fun n hn=>itoa_len om om;have htl:(F.comps.take i).length=i:=by rw[aPo];omega
 have hfc:=AB F.Ac F.qc (F.comps.take i) x.name none om hT.new
 (try unfold vs at hfc);rw[htl]at hfc
 have hz1:(fT [99,111,109,112,111,110,101,110,116,32]).size=10:=rfl;have hz2:(fT [118,97,114,105,97,98,108,101,32]).size=9:=rfl;have hz3:(fT [104,97,110,100,108,101,114,32]).size=8:=rfl;have hz4:(fT [46]).size=1:=rfl;have hz5:(fT [32]).size=1:=rfl;refine Ba func85 ntmps85 fun w0=>?_;refine Js (bz 1 rfl (ros Gm F.Ac F.comps) rfl (En (k:=eX)) (Jz 9 ?_));refine ay fun b4=>?_;refine Jz 9 ?_;refine Jr (Dl (a:=(fT [99,111,109,112,111,110,101,110,116,32])) (b:=x.name) rfl rfl rfl (by first|omega|(simp only[aPa];omega))) ?_;refine az [2] (sG bc F w ((fT [99,111,109,112,111,110,101,110,116,32])++x.name)) ?_;rintro _ _ ⟨rfl,rfl⟩;refine Jz 7 ?_;refine bz 3 rfl (ros Hg x.Av x.vars) rfl (Dg hx _ Kj) (bz 4 rfl (ros Gh F.Af F.flags) rfl (Nh (k:=eX)) (bz 5 rfl (ros Fq x.An x.vers) rfl (Dg hx _ Kk) (To.take i 5 rfl (Jfw [] [0,1,2,3,5,7,104,6,108,309,10,11,12,213,14514,15] (af _) ?_))));refine Jz 7 ?_;refine di rfl (Gq (hi:=i) rfl s72 rfl rfl om) ?_;refine Jz 1 ?_;refine Fw.qf (hfc) (ag (au 0 rfl) (af _)) ?_;refine Jz 3 ?_;refine Fw.mk rfl rfl rfl rfl rfl (Mk.alloc rfl aKk) ?_;rintro _ _ ⟨b5,rfl,rfl⟩;refine dm rfl rfl rfl (Co (i:=0) rfl rfl rfl NK rfl rfl rfl (bta rfl)) (af _) ?_;refine Jz 4 ?_;refine Jfw [] [0,1,2,3,4,5,6,7,9,14,108,110,311,12,13,115,516] (af _) ?_;refine Jz 12 ?_;refine Fw.qf (Uu F.Af F.qf F.flags x.name none om hT.nfl) (ag (au 3 rfl) (af _)) ?_;refine Jz 3 ?_;refine Du [5] (Hm bc F ((fT [99,111,109,112,111,110,101,110,116,32])++x.name) x.name 5) ?_;rintro _ _ ⟨rfl,rfl⟩;refine⟨af _,?_⟩;refine Jz 12 ?_;refine Bz (fun s g mz ρ Γ=>∃(w1:yB) (k:Nat),ρ=[s 0,s 4,s 63,s 64,(65,nv k)]∧Γ=[box bc (cF F [.string w1, .string nE, .string nE,iv 0]) 192,g 6,g 8,p10c,g 5,g 4,g 3,g 7]∧mz=x.vars.length-k∧(k≤x.vars.length)) ⟨⟨_,0,rfl,rfl,rfl,om⟩,sb⟩ ?_;rintro mz _ _ ⟨w1,k,rfl,rfl,rfl,hk⟩;refine Jz 6 ?_;refine ax rfl ?_ ?_<;>intro k66;obtain⟨y,hy⟩:=bq x.vars k om;have htl2:(x.vars.take k).length=k:=by rw[aPo];omega
 have hs2:=Gj (hcg.var y (av hy)).1;have hfv:=kE x.Av x.qv (x.vars.take k) y.name none om (hT.var k y hy).1
 (try unfold vs at hfv);rw[htl2]at hfv
 refine Jz 9 ?_;refine ay fun b8=>?_;refine Jz 10 ?_;refine Jr (Dl (a:=(fT [118,97,114,105,97,98,108,101,32])) (b:=x.name) rfl rfl rfl (by first|omega|(simp only[aPa];omega))) ?_;refine Jr (Dl (a:=((fT [118,97,114,105,97,98,108,101,32])++x.name)) (b:=(fT [46])) rfl rfl rfl (by first|omega|(simp only[aPa];omega))) ?_;refine Jz 2 ?_;refine Jr (Dl (a:=(((fT [118,97,114,105,97,98,108,101,32])++x.name)++(fT [46]))) (b:=y.name) rfl rfl rfl (by first|omega|(simp only[aPa];omega))) ?_;refine az [1] (sG bc F w1 ((((fT [118,97,114,105,97,98,108,101,32])++x.name)++(fT [46]))++y.name)) ?_;rintro _ _ ⟨rfl,rfl⟩;refine Jz 7 ?_;refine To.take k 5 rfl (Jfw [] [0,2,4,101,3,105,306,7,8,9,210,11511,12] (af _) ?_);refine Jz 4 ?_;refine di rfl (Gq (hi:=k) rfl s88 rfl rfl om) ?_;refine Jz 1 ?_;refine Fw.qf (hfv) (ag (au 0 rfl) (af _)) ?_;refine Jz 3 ?_;refine Fw.mk rfl rfl rfl rfl rfl (Mk.alloc rfl z92) ?_;rintro _ _ ⟨b9,rfl,rfl⟩;refine dm rfl rfl rfl (Co (i:=0) rfl rfl rfl r92 rfl rfl rfl (bta rfl)) (af _) ?_;refine Jz 3 ?_;refine Jfw [] [0,1,2,3,4,5,6,7,9,14,108,110,311,12,13,115,516] (af _) ?_;refine Jz 12 ?_;refine Fw.qf (Uu F.Af F.qf F.flags y.name none om (hT.var k y hy).2) (ag (au 8 rfl) (af _)) ?_;refine Jz 3 ?_;refine Du [2] (Hm bc F ((((fT [118,97,114,105,97,98,108,101,32])++x.name)++(fT [46]))++y.name) y.name 5) ?_;rintro _ _ ⟨rfl,rfl⟩;refine⟨af _,?_⟩;refine Jz 8 ?_;refine Bp ⟨⟨((((fT [118,97,114,105,97,98,108,101,32])++x.name)++(fT [46]))++y.name),k+1,rfl,rfl,rfl,om⟩,sb⟩;refine Jz 14 ?_;refine Jh (fun s g mz ρ Γ=>∃(w2:yB) (n:Nat),ρ=[s 0,s 4,s 109,s 110,(111,nv n)]∧Γ=[box bc (cF F [.string w2, .string nE, .string nE,iv 0]) 192,g 1,g 2,p10c,g 4,g 5,g 6,g 7]∧mz=x.vers.length-n∧(n≤x.vers.length)) ⟨⟨_,0,rfl,rfl,rfl,om⟩,sb⟩ ?_;rintro mz _ _ ⟨w2,n,rfl,rfl,rfl,hn⟩;refine Jz 6 ?_;refine ax rfl ?_ ?_<;>intro k112;obtain⟨v,hv⟩:=bq x.vers n om;have hvm:=av hv;have hvg:=hcg.ver v hvm;have hvl:=hvg.1;have hcn:=hCc.2 v hvm;have hvq:=hcn.1;refine Jz 9 ?_;refine ay fun b12=>?_;refine Jz 5 ?_;refine bz 3 rfl (ros Ii v.A v.l) rfl (Dg hx _ (Ir hv _ Ue)) (Jz 8 ?_);refine Bz (fun s g mz ρ Γ=>∃(w3:yB) (m:Nat),ρ=[s 0,s 4,s 109,s 110,s 111,s 11,s 12,s 117,s 118,(119,nv m)]∧Γ=[box bc (cF F [.string w3, .string nE, .string nE,iv 0]) 192,g 3,g 4,p10c,g 6,g 7,g 8,g 9,g 0,g 1]∧mz=v.l.length-m∧(m≤v.l.length)) ⟨⟨_,0,rfl,rfl,rfl,om⟩,sb⟩ ?_;rintro mz _ _ ⟨w3,m,rfl,rfl,rfl,hm⟩;refine Jz 6 ?_;refine ax rfl ?_ ?_<;>intro k120;obtain⟨h,hh⟩:=bq v.l m om;have hhm:=av hh;have hg:=hvg.2 h hhm;have hs3:=Gj hg.nm;obtain⟨hd1,hd2,hd3⟩:=hT.hd n v hv m h hh;have hhq:=hcn.2 h hhm;have hit:(BA (Lib.itoa (((n+1:Nat):Nat):Int))).size≤20:=by rw[BA_size];exact hil2 n om
 refine Jz 9 ?_;refine ay fun b14=>?_;refine Jz 6 ?_;refine Jfw [] [0,1,5,9,10,311,102,3,4,106,7,8,12,513,14] (af _) ?_;refine Jz 5 ?_;refine Fw.qf (itoa_fn (((n+1:Nat):Nat):Int) om om) (ag (au 4 rfl) (af _)) ?_;refine Jz 1 ?_;refine di rfl (Dl (a:=(fT [104,97,110,100,108,101,114,32])) (b:=x.name) rfl rfl rfl (by first|omega|(simp only[aPa];omega))) ?_;refine di rfl (Dl (a:=((fT [104,97,110,100,108,101,114,32])++x.name)) (b:=(fT [46])) rfl rfl rfl (by first|omega|(simp only[aPa];omega))) ?_;refine Jz 1 ?_;refine di rfl (Dl (a:=(((fT [104,97,110,100,108,101,114,32])++x.name)++(fT [46]))) (b:=h.name) rfl rfl rfl (by first|omega|(simp only[aPa];omega))) ?_;refine di rfl (Dl (a:=((((fT [104,97,110,100,108,101,114,32])++x.name)++(fT [46]))++h.name)) (b:=(fT [32])) rfl rfl rfl (by first|omega|(simp only[aPa];omega))) ?_;refine di rfl (Dl (a:=(((((fT [104,97,110,100,108,101,114,32])++x.name)++(fT [46]))++h.name)++(fT [32]))) (b:=(BA (Lib.itoa (((n+1:Nat):Nat):Int)))) rfl rfl rfl (by first|omega|(simp only[aPa];omega))) ?_;refine Du [1] (sG bc F w3 ((((((fT [104,97,110,100,108,101,114,32])++x.name)++(fT [46]))++h.name)++(fT [32]))++(BA (Lib.itoa (((n+1:Nat):Nat):Int))))) ?_;rintro _ _ ⟨rfl,rfl⟩;refine⟨af _,?_⟩;refine Jz 7 ?_;refine Cg 3 rfl (v.kids eX) (Vs.lax eX v) (fun z hz=>Dg hx _ (Ir hv _ hz)) (Ou [] [⟨0,[],0⟩,⟨2,[],0⟩,⟨6,[],0⟩,⟨1,[],1⟩,⟨3,[],0⟩,⟨4,[],0⟩,⟨5,[],2⟩,⟨7,[],1⟩,⟨8,[5],4⟩,⟨9,[5,8],0⟩,⟨10,[5,8],0⟩,⟨11,[5,8],0⟩,⟨12,[],2⟩,⟨13,[5,8,12],5⟩,⟨14,[],0⟩] mixed.h kr (af _) (Jz 4 ?_));refine di rfl (Gq (hi:=m) rfl aAq rfl rfl om) ?_;refine di rfl (.bd [.slice v.A m v.q]) ?_;refine Ew [.slice v.A m v.q] fun b145=>?_;refine Jz 1 ?_;refine Dy rfl rfl rfl rfl rfl .fc (OY v m h.name om hvl hd1) (by show owns (v.kids eX)++[]=[];rw[(v.lax eX).owns];rfl) (ag (Nq 0 rfl) (ag (au 1 rfl) (af _))) ?_;rintro _ _ ⟨rfl,rfl⟩;refine⟨rfl,?_⟩;refine Jz 3 ?_;refine Fw.mk rfl rfl rfl rfl rfl (Mk.alloc rfl aKo) ?_;rintro _ _ ⟨b15,rfl,rfl⟩;refine dm rfl rfl rfl (Co (i:=0) rfl rfl rfl NL rfl rfl rfl (bta rfl)) (af _) ?_;refine Jz 10 ?_;refine az [3] (Hm bc F ((((((fT [104,97,110,100,108,101,114,32])++x.name)++(fT [46]))++h.name)++(fT [32]))++(BA (Lib.itoa (((n+1:Nat):Nat):Int)))) h.name 5) ?_;rintro _ _ ⟨rfl,rfl⟩;refine Jz 3 ?_;have htl3:(x.vers.take n).length=n:=by rw[aPo];omega
 obtain⟨o,ho⟩:∃o,fdH (x.vers.take n) h.name=o:=⟨_,rfl⟩
 have hso:o.isSome=true→(o.getD zH).ps.length=h.ps.length:=fun e=>by
  obtain⟨h',rfl⟩:=aRq.1 e;exact hd2 h' ho
 have hcl:=oF x.An x.qn (x.vers.take n) h.name o om (fun y hy=>(hcg.ver y (aRc hy)).1) ho
 (try unfold vs at hcl);rw[htl3]at hcl
 refine To.take n 10 rfl ?_;refine Cg 7 rfl ((x.vers.take n).flatMap (Vs.kids eX)) (Gt fun h _=>Vs.lax eX h) (fun z hz=>by
     obtain⟨y,hy,hz⟩:=aQe.1 hz;obtain⟨j,hj⟩:=aRb (aRc hy);exact Dg hx _ (Ir hj _ hz)) ?_
 refine Ou [] [⟨0,[],0⟩,⟨2,[],0⟩,⟨4,[],0⟩,⟨1,[],1⟩,⟨3,[],0⟩,⟨5,[],1⟩,⟨6,[],4⟩,⟨7,[6],0⟩,⟨8,[6],0⟩,⟨9,[6],0⟩,⟨10,[],2⟩,⟨11,[6,10],5⟩,⟨12,[],0⟩] mixed.h kr (af _) (Jz 4 ?_);refine di rfl (Gq (hi:=n) rfl aAp rfl rfl om) ?_;refine Jz 1 ?_;refine Dy rfl rfl rfl rfl rfl .fc (hcl) (by show owns ((x.vers.take n).flatMap (Vs.kids eX))++[]=[];rw[(Gt (k:=Vs.kids eX) (l:=x.vers.take n) fun h _=>Vs.lax eX h).owns];rfl) (ag (au 1 rfl) (ag (au 0 rfl) (af _))) ?_;rintro _ _ ⟨rfl,rfl⟩;refine⟨rfl,?_⟩;refine Jz 3 ?_;refine Fw.mk rfl rfl rfl rfl rfl (Mk.alloc rfl aKo) ?_;rintro _ _ ⟨b17,rfl,rfl⟩;refine dm rfl rfl rfl (Co (i:=0) rfl rfl rfl NL rfl rfl rfl (bta rfl)) (af _) ?_;refine Jz 8 ?_;refine JgB ?_ ?_<;>intro g170;refine Jz 10 ?_;refine az [3] (Hm bc F ((((((fT [104,97,110,100,108,101,114,32])++x.name)++(fT [46]))++h.name)++(fT [32]))++(BA (Lib.itoa (((n+1:Nat):Nat):Int)))) h.name 10) ?_;rintro _ _ ⟨rfl,rfl⟩;refine Jn (Jo [(0,pv bc),(4,pv b4),(109,vs x.An x.vers x.qn),(110,nv x.vers.length),(111,nv n),(11,nv n),(12,pv b12),(117,vs v.A v.l v.q),(118,nv v.l.length),(119,nv m),(120, .bool (decide (((m:Nat):Int)<((v.l.length:Nat):Int)))),(14,pv b14),(13,nv m),(138,bf),(16, .bool o.isSome),(17,pv b17)] sb (Jt (Py 10 rfl rfl (Cg 10 rfl (F.kids eX) (Fl.lax eX F) (fun c hc=>hc) (Jfw [] [0,3,4,305,6,101,102,507] (af _) ?_)))));refine Jz 3 ?_;refine Fw.qf (itoa_fn (((n+1:Nat):Nat):Int) om om) (ag (au 1 rfl) (af _)) ?_;refine di rfl (Dl (a:=(fT [32])) (b:=(BA (Lib.itoa (((n+1:Nat):Nat):Int)))) rfl rfl rfl (by first|omega|(simp only[aPa];omega))) ?_;refine Jz 2 ?_;refine Du [2,0,0] (AQ bc F hF hCap i x hx hcg n v hv m h hh hg hd3 ⟨hF.flags,hcg.vars,hg.ps⟩ hhq ((((((fT [104,97,110,100,108,101,114,32])++x.name)++(fT [46]))++h.name)++(fT [32]))++(BA (Lib.itoa (((n+1:Nat):Nat):Int)))) ((fT [32])++(BA (Lib.itoa (((n+1:Nat):Nat):Int)))) (by simp only[aPa];omega)) ?_;rintro _ _ ⟨w2,rfl,rfl⟩;refine⟨af _,?_⟩;refine Jz 8 ?_;refine Bp ⟨⟨w2,m+1,rfl,rfl,rfl,om⟩,sb⟩;refine Jz 6 ?_;refine Jr (Cn (v':=bt) (aPe Value.bool (aQg (by have:=hso (by simpa using g170);omega))) (Rd.eql rfl rfl rfl)) ?_;refine Jz 3 ?_;refine az [3] (Hm bc F ((((((fT [104,97,110,100,108,101,114,32])++x.name)++(fT [46]))++h.name)++(fT [32]))++(BA (Lib.itoa (((n+1:Nat):Nat):Int)))) h.name 10) ?_;rintro _ _ ⟨rfl,rfl⟩;refine Jn (Jo [(0,pv bc),(4,pv b4),(109,vs x.An x.vers x.qn),(110,nv x.vers.length),(111,nv n),(11,nv n),(12,pv b12),(117,vs v.A v.l v.q),(118,nv v.l.length),(119,nv m),(120, .bool (decide (((m:Nat):Int)<((v.l.length:Nat):Int)))),(14,pv b14),(13,nv m),(138,bf),(16, .bool o.isSome),(17,pv b17)] sb (Jt (Py 10 rfl rfl (Cg 10 rfl (F.kids eX) (Fl.lax eX F) (fun c hc=>hc) (Jfw [] [0,3,4,305,6,101,102,507] (af _) ?_)))));refine Jz 3 ?_;refine Fw.qf (itoa_fn (((n+1:Nat):Nat):Int) om om) (ag (au 1 rfl) (af _)) ?_;refine di rfl (Dl (a:=(fT [32])) (b:=(BA (Lib.itoa (((n+1:Nat):Nat):Int)))) rfl rfl rfl (by first|omega|(simp only[aPa];omega))) ?_;refine Jz 2 ?_;refine Du [2,0,0] (AQ bc F hF hCap i x hx hcg n v hv m h hh hg hd3 ⟨hF.flags,hcg.vars,hg.ps⟩ hhq ((((((fT [104,97,110,100,108,101,114,32])++x.name)++(fT [46]))++h.name)++(fT [32]))++(BA (Lib.itoa (((n+1:Nat):Nat):Int)))) ((fT [32])++(BA (Lib.itoa (((n+1:Nat):Nat):Int)))) (by simp only[aPa];omega)) ?_;rintro _ _ ⟨w2,rfl,rfl⟩;refine⟨af _,?_⟩;refine Jz 8 ?_;refine Bp ⟨⟨w2,m+1,rfl,rfl,rfl,om⟩,sb⟩;refine Jz 11 ?_;refine Bp ⟨⟨w3,n+1,rfl,rfl,rfl,om⟩,sb⟩;refine Jz 4 ?_;refine Xq (Ko (Gr (Dr (Da (Ck (Cr (Dx (.inr rfl) results85 ?_)))))));exact⟨_,rfl,rfl⟩
theorem OZ(F:Fl)(hF:Nk F)(hCap:F.Cap)(hT:TyF F):
    Dz 48 [.agg (cF F []).toArray] [all (F.kids eX),glc,p10c] (fun v Γ'=>v= .tuple #[.agg #[.string nE, .string nE,iv 0],iv 0]∧Γ'=[]):=by
 have hFc:=hF.comps;refine Ba func48 ntmps48 fun w0=>?_;refine Js (dh (Jbo fun b1=>?_));refine ay fun b2=>?_;refine Jz 6 ?_;refine Jr (.bd (cF F [.string (fT [102,108,101,101,116]), .string bE, .string bE,iv 0])) ?_;refine Jbo fun b8=>?_;refine Jz 4 ?_;refine Jfw [] [0,3,101,402,104,3505] (af _) ?_;refine Jz 3 ?_;refine Dy rfl rfl rfl rfl rfl .fc (gN F hF) (by show owns (F.kids eX)++(owns gl++[])=[];rw[(Fl.lax eX F).owns];rfl) (ag (au 3 rfl) (ag (au 4 rfl) (af _))) ?_;rintro _ _ ⟨rfl,rfl⟩;refine⟨rfl,?_⟩;refine Jz 1 ?_;refine Du [0] (gP b8 F (fT [102,108,101,101,116]) F.name) ?_;rintro _ _ ⟨rfl,rfl⟩;refine⟨af _,?_⟩;refine Jz 3 ?_;refine Cg 3 rfl (F.kids eX) (Fl.lax eX F) (fun c hc=>hc) (Jz 2 ?_);refine az [1,0] (VZ b8 F hF hCap hT (fT [102,108,101,101,116])) ?_;rintro _ _ ⟨w2,rfl,rfl⟩;refine Jz 3 ?_;refine Cg 3 rfl (F.kids eX) (Fl.lax eX F) (fun c hc=>hc) (Jz 2 ?_);refine az [1,0] (WA b8 F hF hCap hT w2) ?_;rintro _ _ ⟨w2_2,rfl,rfl⟩;refine Jz 12 ?_;refine Bz (fun s g mz ρ Γ=>∃(ww:yB) (k:Nat),ρ=[s 2,s 3,s 4,s 21,(22,nv k)]∧Γ=[box b8 (cF F [.string ww, .string nE, .string nE,iv 0]) 192,g 3,p10c,g 1]∧mz=F.comps.length-k∧(k≤F.comps.length)) ⟨⟨_,0,rfl,rfl,rfl,om⟩,sb⟩ ?_;rintro mz _ _ ⟨ww,k,rfl,rfl,rfl,hk⟩;refine Jz 6 ?_;refine ax rfl ?_ ?_<;>intro k23;obtain⟨x,hx⟩:∃x,F.comps[k]?=some x:=⟨_,gge om⟩
 refine Jz 10 ?_;refine Py 2 rfl rfl (Cg 2 rfl (F.kids eX) (Fl.lax eX F) (fun c hc=>hc) (Jz 3 ?_));refine az [2,0,0] (aCt b8 F hF hCap k x hx (hF.comp x (av hx)) (hT.comp k x hx) ww) ?_;rintro _ _ ⟨w2_3,rfl,rfl⟩;refine Jz 8 ?_;refine Db ⟨⟨w2_3,k+1,rfl,rfl,rfl,om⟩,sb⟩;refine Jz 6 ?_;refine Jfw [box b8 (cF F [.string ww, .string nE, .string nE,iv 0]) 192] [0,1,2,3,4,5,6,7,8,509,10] (ag (au 0 rfl) (af _)) ?_;refine Jz 3 ?_;refine di rfl (Pg (i:=0) (us:=[.string nE, .string nE,iv 0]) rfl rfl aGr rfl (Np (n:=3) rfl) rfl) ?_;refine Jz 5 ?_;refine dm rfl rfl rfl (Co (i:=3) rfl rfl rfl aGr rfl rfl rfl (bta rfl)) (ag (au 0 rfl) (af _)) ?_;refine Jz 4 ?_;refine Jy [] rfl (.inl rfl) results48 rfl (i:=3) rfl aGr rfl rfl ?_;exact⟨rfl,rfl⟩
end Go.Proofs.YtihgdnjkofpgiaaGreatDoor

/- Own text. -/
import Derived.Test.YtihgdnjkofpgiaaGreatDoorQe
import Derived.Test.YtihgdnjkofpgiaaGreatDoorYa
set_option maxHeartbeats 8000000
set_option maxRecDepth 100000
set_option linter.unusedVariables false
set_option linter.unusedSimpArgs false
namespace Go.Proofs.YtihgdnjkofpgiaaGreatDoor
open Go.Proofs.Tryz
open Go.RowKit Go.Flow Go.Mem Go.Sep Go.In
def zV:Vr:=⟨nE,0,0⟩
def zC:Cm:=⟨nE,none,0,[],none,0,[]⟩
def zH:Hd:=⟨nE,none,0,[],none,0,[]⟩
theorem nJ{α:Type}{p:α→Bool}{l:List α}{k:Nat}{x:α}(h:l[k]?=some x)(hp:p x=true):(l.drop k).find? p=some x:=by
 obtain⟨hk,he⟩:=aNr.1 h;rw[aPy hk,he,List.find?_cons_of_pos hp]
theorem vH{α:Type}{p:α→Bool}{l:List α}{k:Nat}{x:α}(h:l[k]?=some x)(hp:¬p x=true):(l.drop k).find? p=(l.drop (k+1)).find? p:=by
 obtain⟨hk,he⟩:=aNr.1 h;rw[aPy hk,he,List.find?_cons_of_neg hp]
theorem nK{α:Type}{p:α→Bool}{l:List α}{k:Nat}(h:l.length≤k):(l.drop k).find? p=none:=by rw[List.drop_of_length_le h];rfl
theorem vI{l:List yB}{s:yB}{k:Nat}(h:l[k]?=some s):bi s k (l.drop k)=some k:=by
 obtain⟨hk,he⟩:=aNr.1 h;rw[aPy hk,he,bi,aOn rfl]
theorem JM{l:List yB}{s x:yB}{k:Nat}(h:l[k]?=some x)(hp:x≠s):bi s k (l.drop k)=bi s (k+1) (l.drop (k+1)):=by
 obtain⟨hk,he⟩:=aNr.1 h;rw[aPy hk,he,bi,aNy hp]
theorem vJ{l:List yB}{s:yB}{k:Nat}(h:l.length≤k):bi s k (l.drop k)=none:=by rw[List.drop_of_length_le h];rfl
theorem Dj{P:pG}{o:Oper}{ρ:Bj}{Γ:List Ad}{x y:Operand}{t t':tI}{a b:yB}(ho:o.op= .binOp .add t x y t')(hx:ev ρ x=some (.string a))(hy:ev ρ y=some (.string b))(hl:a.size+b.size≤140737488355328):Rd P o ρ Γ (.string (a++b)):=dw ho hx hy fun w=>by
 simp[eqGuard,binOp,Op.stringOp];omega
theorem JN(o:oP Nat):decide (0≤oI o)=o.isSome:=by cases o<;>simp[oI]
theorem jI(A:OA)(q:Nat)(l:List Vr)(s:yB)(o:oP Vr)(hl:l.length≤12)(ho:l.find? (fun x:Vr=>decide (x.name=s))=o):
    Dz 129 [vs A l q, .string s] [ros He A l] (fun v _=>v= .tuple #[.agg (He (o.getD zV)).toArray, .bool o.isSome]):=by
 refine Ba func129 ntmps129 fun w0=>?_;refine Js (cz (ae fun b4=>?_));refine Jz 12 ?_;refine Il (fun u g mz ρ Γ=>∃(k:Nat),ρ=[u 4,u 1,u 8,u 9,(10,nv k)]∧Γ=[g 0,g 1]∧mz=l.length-k∧(k≤l.length)∧((l.drop k).find? (fun x:Vr=>decide (x.name=s))=o)) ⟨⟨0,rfl,rfl,rfl,om,ho⟩,sb⟩ ?_;rintro mz _ _ ⟨k,rfl,rfl,rfl,hk,ho⟩;refine Jz 6 ?_;refine aa rfl ?_ ?_<;>intro c11;obtain⟨y,hy⟩:=ai l k om;refine Jz 8 ?_;refine ae fun b7=>?_;refine Jz 8 ?_;refine Jr (Jb rfl rfl rfl) ?_;refine Jn (Jt (aa rfl (fun c17=>?_) (fun c17=>?_)));refine Jz 13 ?_;refine Tf [] rfl (.inl rfl) results129 rfl (i:=1) rfl r92 rfl rfl ?_;rw[show o=some y from by rw[←ho];exact nJ hy (by simpa using c17)];rfl;refine Jz 8 ?_;refine Bp ⟨⟨k+1,rfl,rfl,rfl,om,(by rw[←vH hy (by simpa using c17)];exact ho)⟩,sb⟩;refine Jz 7 ?_;refine Jr (.bd [.string bE,ui 0,iv 0]) ?_;refine Jz 5 ?_;refine Tf [] rfl (.inl rfl) results129 rfl (i:=0) rfl r92 rfl rfl ?_;rw[show o=none from by rw[←ho];exact nK om];rfl
theorem yV(A:OA)(q:Nat)(l:List Cm)(s:yB)(o:oP Cm)(hl:l.length≤12)(ho:l.find? (fun x:Cm=>decide (x.name=s))=o):
    Dz 126 [vs A l q, .string s] [ros Gu A l] (fun v _=>v= .tuple #[.agg (Gu (o.getD zC)).toArray, .bool o.isSome]):=by
 refine Ba func126 ntmps126 fun w0=>?_;refine Js (cz (ae fun b4=>?_));refine Jz 12 ?_;refine Il (fun u g mz ρ Γ=>∃(k:Nat),ρ=[u 4,u 1,u 8,u 9,(10,nv k)]∧Γ=[g 0,g 1]∧mz=l.length-k∧(k≤l.length)∧((l.drop k).find? (fun x:Cm=>decide (x.name=s))=o)) ⟨⟨0,rfl,rfl,rfl,om,ho⟩,sb⟩ ?_;rintro mz _ _ ⟨k,rfl,rfl,rfl,hk,ho⟩;refine Jz 6 ?_;refine aa rfl ?_ ?_<;>intro c11;obtain⟨y,hy⟩:=ai l k om;refine Jz 8 ?_;refine ae fun b7=>?_;refine Jz 8 ?_;refine Jr (Jb rfl rfl rfl) ?_;refine Jn (Jt (aa rfl (fun c17=>?_) (fun c17=>?_)));refine Jz 13 ?_;refine Tf [] rfl (.inl rfl) results126 rfl (i:=1) rfl MQ rfl rfl ?_;rw[show o=some y from by rw[←ho];exact nJ hy (by simpa using c17)];rfl;refine Jz 8 ?_;refine Bp ⟨⟨k+1,rfl,rfl,rfl,om,(by rw[←vH hy (by simpa using c17)];exact ho)⟩,sb⟩;refine Jz 7 ?_;refine Jr (.bd [.string bE,nz,nz]) ?_;refine Jz 5 ?_;refine Tf [] rfl (.inl rfl) results126 rfl (i:=0) rfl MQ rfl rfl ?_;rw[show o=none from by rw[←ho];exact nK om];rfl
def fdH(l:List Vs)(s:yB):oP Hd:=(l.flatMap Vs.l).find? (fun x:Hd=>decide (x.name=s))
theorem UT(v:Vs)(r:List Vs)(s:yB):fdH (v::r) s=(v.l.find? (fun x:Hd=>decide (x.name=s))).or (fdH r s):=by
 unfold fdH;rw[aPl,List.find?_append]
theorem UU{l:List Vs}{k:Nat}{v:Vs}{s:yB}(h:l[k]?=some v):fdH (l.drop k) s=(v.l.find? (fun x:Hd=>decide (x.name=s))).or (fdH (l.drop (k+1)) s):=by
 obtain⟨hk,he⟩:=aNr.1 h;rw[aPy hk,he,UT]
theorem aBm{l:List Vs}{k:Nat}{s:yB}(h:l.length≤k):fdH (l.drop k) s=none:=by rw[List.drop_of_length_le h];rfl
theorem yX{l:List Vs}{k:Xm}{v:Vs}{i:Nat}(h:l[i]?=some v):ros Iu v.A v.l∈l.flatMap (Vs.kids k):=aOs.2 ⟨v,sN h,aNu ..⟩
theorem nL(A:OA)(q:Nat)(l:List Vs)(s:yB)(o:oP Hd)(hl:l.length≤12)(hl3:∀v∈l,v.l.length≤3)(ho:fdH l s=o):
    Dz 130 [vs A l q, .string s] [ros Fb A l,all (l.flatMap (Vs.kids eX))] (fun v Γ'=>v= .tuple #[.agg (Iu (o.getD zH)).toArray, .bool o.isSome]∧Γ'=[]):=by
 refine Ba func130 ntmps130 fun w0=>?_;refine Js (cz (ae fun b4=>?_));refine Jz 12 ?_;refine Il (fun u g mz ρ Γ=>∃(k:Nat),ρ=[u 4,u 1,u 10,u 11,(12,nv k)]∧Γ=[g 0,g 1,g 2]∧mz=l.length-k∧(k≤l.length)∧(fdH (l.drop k) s=o)) ⟨⟨0,rfl,rfl,rfl,om,ho⟩,sb⟩ ?_;rintro mz _ _ ⟨k,rfl,rfl,rfl,hk,ho⟩;refine Jz 6 ?_;refine aa rfl ?_ ?_<;>intro c13;obtain⟨v,hv⟩:=ai l k om;have hvl:=hl3 v (sN hv);refine Jz 8 ?_;refine ae fun b7=>?_;refine Jz 4 ?_;refine bv 3 rfl (ros Iu v.A v.l) rfl (yX hv) (Jz 8 ?_);refine Bw (fun u g mz ρ Γ=>∃(j:Nat),ρ=[u 4,u 1,u 10,u 11,u 12,u 17,u 18,(19,nv j)]∧Γ=[g 2,g 3,g 4,g 0]∧mz=v.l.length-j∧(j≤v.l.length)∧((v.l.drop j).find? (fun x:Hd=>decide (x.name=s))=v.l.find? (fun x:Hd=>decide (x.name=s)))) ⟨⟨0,rfl,rfl,rfl,om,rfl⟩,sb⟩ ?_;rintro mz _ _ ⟨j,rfl,rfl,rfl,hj,hj0⟩;refine Jz 6 ?_;refine aa rfl ?_ ?_<;>intro c20;obtain⟨y,hy⟩:=ai v.l j om;refine Jz 8 ?_;refine ae fun b9=>?_;refine Jz 8 ?_;refine Jr (Jb rfl rfl rfl) ?_;refine Jn (Jt (aa rfl (fun c26=>?_) (fun c26=>?_)));refine Jz 17 ?_;refine Tf [] rfl (.inl rfl) results130 rfl (i:=1) rfl MR rfl rfl ?_;rw[show o=some y from by rw[←ho,UU hv,←hj0,nJ hy (by simpa using c26)];rfl];exact⟨rfl,rfl⟩;refine Jz 8 ?_;refine Bp ⟨⟨j+1,rfl,rfl,rfl,om,(by rw[←vH hy (by simpa using c26)];exact hj0)⟩,sb⟩;refine Jz 11 ?_;refine Bp ⟨⟨k+1,rfl,rfl,rfl,om,(by rw[UU hv,show v.l.find? (fun x:Hd=>decide (x.name=s))=none from by rw[←hj0];exact nK om]at ho;exact ho)⟩,sb⟩;refine Jz 7 ?_;refine Jr (.bd [.string bE,nz,nz]) ?_;refine Jz 5 ?_;refine Tf [] rfl (.inl rfl) results130 rfl (i:=0) rfl MR rfl rfl ?_;rw[show o=none from by rw[←ho];exact aBm om];exact⟨rfl,rfl⟩
theorem FC(A:OA)(q:Nat)(l:List Vs)(s:yB)(h:Hd)(hl:l.length≤12)(hl3:∀v∈l,v.l.length≤3)(ho:fdH l s=some h):Dz 130 [vs A l q, .string s] [ros Fb A l,all (l.flatMap (Vs.kids eX))] (fun v Γ'=>v= .tuple #[.agg (Iu h).toArray,bt]∧Γ'=[]):=nL A q l s (some h) hl hl3 ho
theorem nM(A:OA)(q:Nat)(l:List Cm)(s:yB)(c:Cm)(hl:l.length≤12)(ho:l.find? (fun x:Cm=>decide (x.name=s))=some c):Dz 126 [vs A l q, .string s] [ros Gu A l] (fun v _=>v= .tuple #[.agg (Gu c).toArray,bt]):=yV A q l s (some c) hl ho
theorem Kv(A:OA)(q:Nat)(l:List yB)(s:yB)(o:oP Nat)(hl:l.length≤12)(ho:bi s 0 l=o):
    Dz 87 [vs A l q, .string s] [ros Da A l] (fun v _=>v=iv (oI o)):=by
 refine Ba func87 ntmps87 fun w0=>?_;refine Jz 14 ?_;refine Il (fun u g mz ρ Γ=>∃(k:Nat),ρ=[u 0,u 1,u 6,u 7,(8,nv k)]∧Γ=[g 0]∧mz=l.length-k∧(k≤l.length)∧(bi s k (l.drop k)=o)) ⟨⟨0,rfl,rfl,rfl,om,ho⟩,sb⟩ ?_;rintro mz _ _ ⟨k,rfl,rfl,rfl,hk,ho⟩;refine Jz 6 ?_;refine aa rfl ?_ ?_<;>intro k9;obtain⟨y,hy⟩:=ai l k om;refine Jz 17 ?_;refine Jr (Jb rfl rfl rfl) ?_;refine Jn (Jt (aa rfl (fun k16=>?_) (fun k16=>?_)));refine Jz 12 ?_;refine ak results87 ?_;rw[show o=some k from by rw[←ho];exact vI (by rw[k16];exact hy)];rfl;refine Jz 8 ?_;refine Dc ⟨⟨k+1,rfl,rfl,rfl,om,(by rw[←JM hy (fun e=>k16 e.symm)];exact ho)⟩,sb⟩;refine Jz 11 ?_;refine ak results87 ?_;rw[show o=none from by rw[←ho];exact vJ om];rfl
theorem Te(A:OA)(q:Nat)(l:List yB)(s:yB)(o:oP Nat)(hl:l.length≤12)(ho:bi s 0 l=o):
    Dz 86 [vs A l q, .string s] [ros Da A l] (fun v _=>v= .bool o.isSome):=by
 refine Ba func86 ntmps86 fun w0=>?_;refine Jz 9 ?_;refine Jvf (Kv A q l s o hl ho) rfl (jS (lS 0 rfl) (jP _)) ?_;refine Jr (Cs (v':= .bool o.isSome) (aOa Value.bool (JN o)) (Rd.geq rfl rfl rfl)) ?_;refine Jz 4 ?_;refine ak results86 ?_;rfl
theorem UV(b:Nat)(s:yB)(x:Fg):
    Dz 178 [.agg (Gb x).toArray,pv b] [ro (some ⟨b,0,none⟩) [.string s]] (fun v _=>v= .bool (decide (x.name=s))):=by
 refine Ba func178 ntmps178 fun w0=>?_;refine Js (cz (Jbo fun b2=>?_));refine Jz 7 ?_;refine Jr (Cq (i:=1) rfl rfl c9 rfl (Ev (A:=some ⟨b,0,none⟩) (o:=0) (k:=1) rfl)) ?_;refine Jr (Jb rfl rfl rfl) ?_;refine Jz 4 ?_;refine ak results178 ?_;rfl
theorem NV(b:Nat)(A:OA)(q:Nat)(l:List Fg)(s:yB)(o:oP Nat)(hl:l.length≤12)(ho:bi s 0 (l.map Fg.name)=o):
    Dz 220 [vs A l q, .func (.func 178) #[] #[pv b]] [ros Gb A l,ro (some ⟨b,0,none⟩) [.string s]] (fun v _=>v=iv (oI o)):=by
 refine Ba func220 ntmps220 fun w0=>?_;refine Jz 14 ?_;refine Il (fun u g mz ρ Γ=>∃(k:Nat),ρ=[u 0,u 1,u 6,u 7,(8,nv k)]∧Γ=[g 0,g 1]∧mz=l.length-k∧(k≤l.length)∧(bi s k ((l.map Fg.name).drop k)=o)) ⟨⟨0,rfl,rfl,rfl,om,ho⟩,sb⟩ ?_;rintro mz _ _ ⟨k,rfl,rfl,rfl,hk,ho⟩;refine Jz 6 ?_;refine aa rfl ?_ ?_<;>intro k9;obtain⟨y,hy⟩:=ai l k om;refine Jz 17 ?_;refine JcV rfl rfl rfl (di (first:=[]) (captured:=[pv b]) rfl rfl rfl (kc.h 178 rfl)) (UV b s y) rfl (jS (lS 1 rfl) (jP _)) (Jn (Jt (aa rfl (fun k16=>?_) (fun k16=>?_))));refine Jz 12 ?_;refine ak results220 ?_;rw[show o=some k from by rw[←ho];exact vI (by rw[aOf,hy,←k16];rfl)];rfl;refine Jz 8 ?_;refine Dc ⟨⟨k+1,rfl,rfl,rfl,om,(by rw[←JM (x:=y.name) (by rw[aOf,hy];rfl) k16];exact ho)⟩,sb⟩;refine Jz 11 ?_;refine ak results220 ?_;rw[show o=none from by rw[←ho];exact vJ (by rw[aNv];omega)];rfl
theorem vK(b:Nat)(A:OA)(q:Nat)(l:List Fg)(s:yB)(o:oP Nat)(hl:l.length≤12)(ho:bi s 0 (l.map Fg.name)=o):
    Dz 177 [vs A l q, .func (.func 178) #[] #[pv b]] [ros Gb A l,ro (some ⟨b,0,none⟩) [.string s]] (fun v _=>v= .bool o.isSome):=by
 refine Ba func177 ntmps177 fun w0=>?_;refine Jz 9 ?_;refine Jvf (NV b A q l s o hl ho) rfl (jS (lS 0 rfl) (jS (lS 1 rfl) (jP _))) ?_;refine Jr (Cs (v':= .bool o.isSome) (aOa Value.bool (JN o)) (Rd.geq rfl rfl rfl)) ?_;refine Jz 4 ?_;refine ak results177 ?_;rfl
theorem Uc(A:OA)(q:Nat)(l:List Fg)(s:yB)(o:oP Nat)(hl:l.length≤12)(ho:bi s 0 (l.map Fg.name)=o):
    Dz 125 [vs A l q, .string s] [ros Gb A l] (fun v _=>v= .bool o.isSome):=by
 refine Ba func125 ntmps125 fun w0=>?_;refine Js (cz (Jbo fun b3=>?_));refine Jz 4 ?_;refine Sm (Jz 2 ?_);refine Jr (Rd.makeFunc rfl rfl rfl) ?_;refine Jvf (vK b3 A q l s o hl ho) rfl (jS (lS 1 rfl) (jS (lS 0 rfl) (jP _))) ?_;refine Jz 4 ?_;refine ak results125 ?_;rfl
theorem fK(b:Nat)(F:Fl)(w n:yB):
    Dz 82 [pv b,iv 0, .string n] [box b (cF F [.string w, .string nE, .string nE,iv 0]) 192] (fun v Γ'=>v=bt∧Γ'=[box b (cF F [.string w, .string nE, .string nE,iv 0]) 192]):=by
 refine Ba func82 ntmps82 fun w0=>?_;refine Jz 35 ?_;refine ak results82 ?_;exact⟨rfl,rfl⟩
theorem rF(b:Nat)(F:Fl)(w n:yB):
    Dz 123 [pv b, .string n] [box b (cF F [.string w, .string nE, .string nE,iv 0]) 192] (fun v Γ'=>v=bt∧Γ'=[box b (cF F [.string n, .string nE, .string nE,iv 0]) 192]):=by
 refine Ba func123 ntmps123 fun w0=>?_;refine Jz 26 ?_;refine ak results123 ?_;exact⟨rfl,rfl⟩
theorem Hf(b:Nat)(F:Fl)(w n:yB)(e:Int):
    Dz 124 [pv b,bt,iv e, .string n] [box b (cF F [.string w, .string nE, .string nE,iv 0]) 192] (fun v Γ'=>v=bt∧Γ'=[box b (cF F [.string w, .string nE, .string nE,iv 0]) 192]):=by
 refine Ba func124 ntmps124 fun w0=>?_;refine Jz 21 ?_;refine af [0] (fK b F w n) ?_;rintro _ _ ⟨rfl,rfl⟩;refine Jz 4 ?_;refine ak results124 ?_;exact⟨rfl,rfl⟩
theorem NW(b:Nat)(z x:Lk):
    Dz 127 [.agg (Jj x).toArray,pv b] [ro (some ⟨b,0,none⟩) [.string z.src, .string z.dst,iv z.lat]] (fun v _=>v= .bool (decide (x.src=z.src)&&decide (x.dst=z.dst))):=by
 refine Ba func127 ntmps127 fun w0=>?_;refine Js (cz (Jbo fun b2=>?_));refine Jz 8 ?_;refine Jr (Cq (i:=1) rfl rfl c9 rfl (Ev (A:=some ⟨b,0,none⟩) (o:=0) (k:=1) rfl)) ?_;refine Jr (Jb rfl rfl rfl) ?_;refine JgP ?_ ?_<;>intro g9;refine Jz 3 ?_;refine Jr (Cq (i:=1) rfl rfl c9 rfl (Ev (A:=some ⟨b,0,none⟩) (o:=1) (k:=1) rfl)) ?_;refine Jr (Jb rfl rfl rfl) ?_;refine Jz 5 ?_;refine ak results127 ?_;simp[*];refine Jz 10 ?_;refine ak results127 ?_;simp[*]
theorem NY(b:Nat)(z:Lk)(A:OA)(q:Nat)(l:List Lk)(hl:l.length≤12)(hn:∀y∈l,¬(y.src=z.src∧y.dst=z.dst)):
    Dz 179 [vs A l q, .func (.func 127) #[] #[pv b]] [ros Jj A l,ro (some ⟨b,0,none⟩) [.string z.src, .string z.dst,iv z.lat]] (fun v _=>v=iv (-1)):=by
 refine Ba func179 ntmps179 fun w0=>?_;refine Jz 14 ?_;refine Il (fun s g mz ρ Γ=>∃(k:Nat),ρ=[s 0,s 1,s 6,s 7,(8,nv k)]∧Γ=[g 0,g 1]∧mz=l.length-k∧(k≤l.length)) ⟨⟨0,rfl,rfl,rfl,om⟩,sb⟩ ?_;rintro mz _ _ ⟨k,rfl,rfl,rfl,hk⟩;refine Jz 6 ?_;refine aa rfl ?_ ?_<;>intro k9;obtain⟨y,hy⟩:=ai l k om;refine Jz 17 ?_;refine JcV rfl rfl rfl (di (first:=[]) (captured:=[pv b]) rfl rfl rfl (kc.h 127 rfl)) (NW b z y) rfl (jS (lS 1 rfl) (jP _)) (Jn (Jt (Ee rfl (fun k16=>?_) (fun k16=>?_))));exact aOx (by simpa using k16) (hn y (sN hy));refine Jz 8 ?_;refine Dc ⟨⟨k+1,rfl,rfl,rfl,om⟩,sb⟩;refine Jz 11 ?_;refine ak results179 ?_;rfl
theorem vL(b:Nat)(z:Lk)(A:OA)(q:Nat)(l:List Lk)(hl:l.length≤12)(hn:∀y∈l,¬(y.src=z.src∧y.dst=z.dst)):
    Dz 128 [vs A l q, .func (.func 127) #[] #[pv b]] [ros Jj A l,ro (some ⟨b,0,none⟩) [.string z.src, .string z.dst,iv z.lat]] (fun v _=>v=bf):=by
 refine Ba func128 ntmps128 fun w0=>?_;refine Jz 9 ?_;refine Jvf (NY b z A q l hl hn) rfl (jS (lS 0 rfl) (jS (lS 1 rfl) (jP _))) ?_;refine Jz 5 ?_;refine ak results128 ?_;rfl
structure Scp where
 Af:OA
 qf:Nat
 flags:List Fg
 Av:OA
 qv:Nat
 vars:List Vr
 Ap:OA
 qp:Nat
 ps:List yB
def fdV(l:List Vr)(s:yB):oP Vr:=l.find? (fun x:Vr=>decide (x.name=s))
def fdC(l:List Cm)(s:yB):oP Cm:=l.find? (fun x:Cm=>decide (x.name=s))
structure Scp.Low(σ:Scp):Prop where
 f:σ.flags.length≤2
 v:σ.vars.length≤5
 p:σ.ps.length≤2
def Scp.Nm(σ:Scp)(s:yB)(t:Nat):Prop:=((bi s 0 σ.ps).isSome=true∧t=1)∨((bi s 0 σ.ps).isSome=false∧∃v,fdV σ.vars s=some v∧v.ty≠3∧t=v.ty)∨((bi s 0 σ.ps).isSome=false∧fdV σ.vars s=none∧(bi s 0 (σ.flags.map Fg.name)).isSome=true∧t=2)
def Scp.Ch(σ:Scp)(s:yB)(t:Nat):Prop:=(bi s 0 σ.ps).isSome=false∧∃v,fdV σ.vars s=some v∧v.ty=t
structure OpT(σ:Scp)(o:Nat)(s:yB)(u t:Nat):Prop where
 ar:1≤o∧o≤23∧u≤2∧t≤2∧(o=1∨o=4→t=1)∧(o=2∨o=3→t=2)∧(o=8→t=1)∧(o=16∨o=17→t=2)∧(o=10∨o=22∨o=23→u=2∧t=2)∧(18≤o∧o≤21→u=1∧t=2)∧(o=7→u=1∧t=2)∧(o=6∨o=9∨11≤o∧o≤15→u=1∧t=1)
 nm:o=5→σ.Nm s t
 tb:o=6∨o=7∨o=8→σ.Ch s 3
mutual
def PE.Ty(σ:Scp):PE→Nat→Prop
 |⟨o,s,_,l⟩,t=>∃u,Nz σ l u∧(l.length=0→u=0)∧OpT σ o s u t
def Nz(σ:Scp):List PE→Nat→Prop
 |[],_=>True
 |e::r,u=>PE.Ty σ e u∧Nz σ r u
end
theorem nN{σ:Scp}:∀{l:List PE} {u:Nat},Nz σ l u→∀x∈l,x.Ty σ u
 |[],_,_,x,h=>by cases h
 | e::r,u,h,x,hx=>by
   rcases aNx.1 hx with rfl|hx
   ·exact h.1
   ·exact nN h.2 x hx
theorem fM{σ:Scp}{u:Nat}:∀{l:List PE},(∀x∈l,x.Ty σ u)→Nz σ l u
 |[],_=>trivial
 |e::r,h=>⟨h e (aNu ..),fM fun x hx=>h x (aNs _ hx)⟩
theorem rG{σ:Scp}{u:Nat}{l:List Ex}(h:Nz σ (Cn l) u){x:Ex}(hx:x∈l):x.pure.Ty σ u:=nN h x.pure (by rw[Bi];exact aOm.2 ⟨x,hx,rfl⟩)
theorem UW{σ:Scp}{t:Nat}{e:Ex}(h:e.pure.Ty σ t):∃u,(Nz σ (Cn e.args) u)∧(e.args.length=0→u=0)∧OpT σ e.op e.name u t:=by
 rw[El]at h;obtain⟨u,h1,h2,h3⟩:=h;exact⟨u,h1,fun h=>h2 (by rw[Bi,aNv];exact h),h3⟩
theorem JO(σ:Scp)(hσ:σ.Low)(s:yB)(t:Nat)(h:σ.Ch s t):
    Dz 248 [.agg #[vs σ.Af σ.flags σ.qf,vs σ.Av σ.vars σ.qv,vs σ.Ap σ.ps σ.qp], .string s] [ros He σ.Av σ.vars,ros Da σ.Ap σ.ps] (fun v Γ'=>∃w:Vr,v= .tuple #[.agg (He w).toArray,bt]∧Γ'=[]∧w.ty=t):=by
 refine Ba func248 ntmps248 fun w0=>?_;refine Js (cz (Jbo fun b2=>?_));refine ae fun b4=>?_;refine Jz 9 ?_;refine Jvf (Te σ.Ap σ.qp σ.ps s _ (by have:=hσ.p;omega) rfl) rfl (jS (lS 3 rfl) (jP _)) ?_;refine Jn (Jt (Ee rfl (fun k9=>?_) (fun k9=>?_)));exact aOx (k9.symm.trans h.1) de;refine Jz 7 ?_;refine Jvf (jI σ.Av σ.qv σ.vars s _ (by have:=hσ.v;omega) rfl) rfl (jS (lS 2 rfl) (jP _)) ?_;refine Jz 7 ?_;refine Tf [] rfl (.inl rfl) results248 rfl (i:=0) rfl r92 rfl rfl ?_;obtain⟨_,w,hw,ht⟩:=h;rw[show List.find? (fun x:Vr=>decide (x.name=s)) σ.vars=some w from hw];exact⟨w,rfl,rfl,ht⟩
theorem UX(σ:Scp)(hσ:σ.Low)(s:yB)(t:Nat)(h:σ.Nm s t):
    Dz 259 [.agg #[vs σ.Af σ.flags σ.qf,vs σ.Av σ.vars σ.qv,vs σ.Ap σ.ps σ.qp], .string s] [ros Gb σ.Af σ.flags,ros He σ.Av σ.vars,ros Da σ.Ap σ.ps] (fun v _=>v= .tuple #[ub t,iv 0]):=by
 refine Ba func259 ntmps259 fun w0=>?_;refine Js (cz (Jbo fun b2=>?_));refine Jz 10 ?_;refine Jvf (Te σ.Ap σ.qp σ.ps s _ (by have:=hσ.p;omega) rfl) rfl (jS (lS 3 rfl) (jP _)) ?_;refine Jn (Jt (Ee rfl (fun k11=>?_) (fun k11=>?_)));refine Jz 8 ?_;refine Ei (.inl rfl) results259 rfl rfl ?_;unfold Scp.Nm fdV at h;generalize List.find? (fun x:Vr=>decide (x.name=s)) σ.vars=o2 at*;cases o2<;>simp_all<;>omega;refine Jz 7 ?_;refine Jvf (jI σ.Av σ.qv σ.vars s _ (by have:=hσ.v;omega) rfl) rfl (jS (lS 2 rfl) (jP _)) ?_;refine Jz 3 ?_;refine ae fun b6=>?_;refine Jz 9 ?_;refine JgB ?_ ?_<;>intro g21;refine Jz 7 ?_;refine aa rfl ?_ ?_<;>intro k19;refine Jz 9 ?_;refine Ei (.inl rfl) results259 rfl rfl ?_;unfold Scp.Nm fdV at h;generalize List.find? (fun x:Vr=>decide (x.name=s)) σ.vars=o2 at*;cases o2<;>simp_all<;>omega;refine Jz 6 ?_;refine Ee rfl ?_ ?_<;>intro k26;refine Jz 11 ?_;refine Ei (.inl rfl) results259 rfl rfl ?_;unfold Scp.Nm fdV at h;generalize List.find? (fun x:Vr=>decide (x.name=s)) σ.vars=o2 at*;cases o2<;>simp_all<;>omega;refine Jz 5 ?_;refine Jvf (Uc σ.Af σ.qf σ.flags s _ (by have:=hσ.f;omega) rfl) rfl (jS (lS 2 rfl) (jP _)) ?_;refine Jz 3 ?_;refine Ee rfl ?_ ?_<;>intro k30;refine Jz 9 ?_;refine Ei (.inl rfl) results259 rfl rfl ?_;unfold Scp.Nm fdV at h;generalize List.find? (fun x:Vr=>decide (x.name=s)) σ.vars=o2 at*;cases o2<;>simp_all<;>omega;refine Jz 10 ?_;refine Ei (.inl rfl) results259 rfl rfl ?_;unfold Scp.Nm fdV at h;generalize List.find? (fun x:Vr=>decide (x.name=s)) σ.vars=o2 at*;cases o2<;>simp_all<;>omega;refine Jz 14 ?_;refine Ee rfl ?_ ?_<;>intro k26;refine Jz 11 ?_;refine Ei (.inl rfl) results259 rfl rfl ?_;unfold Scp.Nm fdV at h;generalize List.find? (fun x:Vr=>decide (x.name=s)) σ.vars=o2 at*;cases o2<;>simp_all<;>omega;refine Jz 5 ?_;refine Jvf (Uc σ.Af σ.qf σ.flags s _ (by have:=hσ.f;omega) rfl) rfl (jS (lS 2 rfl) (jP _)) ?_;refine Jz 3 ?_;refine Ee rfl ?_ ?_<;>intro k30;refine Jz 9 ?_;refine Ei (.inl rfl) results259 rfl rfl ?_;unfold Scp.Nm fdV at h;generalize List.find? (fun x:Vr=>decide (x.name=s)) σ.vars=o2 at*;cases o2<;>simp_all<;>omega;refine Jz 10 ?_;refine Ei (.inl rfl) results259 rfl rfl ?_;unfold Scp.Nm fdV at h;generalize List.find? (fun x:Vr=>decide (x.name=s)) σ.vars=o2 at*;cases o2<;>simp_all<;>omega
theorem fO(σ:Scp)(hσ:σ.Low)(s:yB)(h:σ.Ch s 3):
    Dz 261 [.agg #[vs σ.Af σ.flags σ.qf,vs σ.Av σ.vars σ.qv,vs σ.Ap σ.ps σ.qp], .string s] [ros He σ.Av σ.vars,ros Da σ.Ap σ.ps] (fun v _=>v=iv 0):=by
 refine Ba func261 ntmps261 fun w0=>?_;refine Js (cz (Jbo fun b2=>?_));refine Jz 7 ?_;refine Jqf (JO σ hσ s _ h) rfl (jS (lS 1 rfl) (jS (lS 2 rfl) (jP _))) ?_;rintro _ _ ⟨w,rfl,rfl,hw⟩;refine⟨rfl,?_⟩;refine Jz 3 ?_;refine ae fun b5=>?_;refine Jz 18 ?_;refine Jr (Cs (v':=bf) (aOa Value.bool (aPe om)) (Rd.neq rfl rfl rfl)) ?_;refine Jz 13 ?_;refine ak results261 ?_;rfl
theorem Yt(σ:Scp)(s:yB)(t:Nat):
    Dz 260 [.agg #[vs σ.Af σ.flags σ.qf,vs σ.Av σ.vars σ.qv,vs σ.Ap σ.ps σ.qp],ub t, .string s,iv 0] [] (fun v _=>v= .tuple #[ub t, .string nE,iv 0]):=by
 refine Ba func260 ntmps260 fun w0=>?_;refine Js (cz (Jbo fun b4=>?_));refine Jz 24 ?_;refine Rk (.inl rfl) results260 rfl rfl rfl ?_;rfl
theorem FD(σ:Scp)(A:OA)(q:Nat)(l:List Ex)(u:Nat)(ih:∀x∈l,∀t:Nat,x.pure.low→x.pure.Ty σ t→Dz 249 [.agg #[vs σ.Af σ.flags σ.qf,vs σ.Av σ.vars σ.qv,vs σ.Ap σ.ps σ.qp], .agg (Bc x).toArray] [all (x.kids Bc),ros Gb σ.Af σ.flags,ros He σ.Av σ.vars,ros Da σ.Ap σ.ps] (fun v Γ'=>v= .tuple #[ub t, .string nE,iv 0]∧Γ'=[]))(hl:l.length≤12)(hlow:Ku (Cn l))(hty:Nz σ (Cn l) u)(hu0:l.length=0→u=0):
    Dz 258 [.agg #[vs σ.Af σ.flags σ.qf,vs σ.Av σ.vars σ.qv,vs σ.Ap σ.ps σ.qp],vs A l q] [all (lsF Bc A l),ros Gb σ.Af σ.flags,ros He σ.Av σ.vars,ros Da σ.Ap σ.ps] (fun v Γ'=>v= .tuple #[ub u, .string nE,iv 0]∧Γ'=[]):=by
 refine Ba func258 ntmps258 fun w0=>?_;refine Js (cz (Jbo fun b2=>?_));refine Jz 12 ?_;refine bv 1 rfl (ros Bc A l) rfl (aNu ..) (Jz 7 ?_);refine Bw (fun s g mz ρ Γ=>∃(tk:Nat) (k:Nat),ρ=[s 2,(4,ub tk),s 7,s 13,s 14,(15,nv k)]∧Γ=[g 1,g 0,g 2,g 3,g 4,g 5]∧mz=l.length-k∧(k≤l.length)∧(k=0→tk=0)∧(0<k→tk=u)) ⟨⟨0,0,rfl,rfl,rfl,om,(fun _=>rfl),(fun h=>aOx h de)⟩,sb⟩ ?_;rintro mz _ _ ⟨tk,k,rfl,rfl,rfl,hk,hk0,hk1⟩;refine Jz 6 ?_;refine aa rfl ?_ ?_<;>intro c16;obtain⟨x,hx⟩:=ai l k om;refine Jz 9 ?_;refine ae fun b9=>?_;refine Jz 5 ?_;refine Bv 3 rfl (x.kids Bc) (Ex.lax Bc x) (Xq hx) (Jz 3 ?_);refine Jqf (ih x (sN hx) u (Lp hlow (sN hx)) (rG hty (sN hx))) (by show owns (x.kids Bc)++[]=[];rw[(Ex.lax Bc x).owns];rfl) (jS (lS 0 rfl) (jS (lS 5 rfl) (jS (lS 6 rfl) (jS (lS 7 rfl) (jP _))))) ?_;rintro _ _ ⟨rfl,rfl⟩;refine⟨rfl,?_⟩;refine Jz 26 ?_;refine aa rfl ?_ ?_<;>intro c32;refine Jz 10 ?_;refine Jr (Cs (v':=bt) (aOa Value.bool (aOv om)) (Rd.eql rfl rfl rfl)) ?_;refine Jz 10 ?_;refine Bp ⟨⟨u,k+1,rfl,rfl,rfl,om,(fun h=>by omega),(fun _=>by omega)⟩,sb⟩;refine Jz 7 ?_;refine Jr (Cs (v':=bt) (aOa Value.bool (aOv om)) (Rd.eql rfl rfl rfl)) ?_;refine Jz 10 ?_;refine Bp ⟨⟨tk,k+1,rfl,rfl,rfl,om,(fun h=>by omega),(fun _=>by omega)⟩,sb⟩;refine Jz 24 ?_;refine Gl (Df (Cr (Cb (Ci (Cg (Rk (.inl rfl) results258 rfl rfl rfl ?_))))));obtain rfl:tk=u:=om;exact⟨rfl,rfl⟩
theorem yY(σ:Scp)(hσ:σ.Low)(e:Ex)(τ u:Nat)(ih:∀x∈e.args,∀t:Nat,x.pure.low→x.pure.Ty σ t→Dz 249 [.agg #[vs σ.Af σ.flags σ.qf,vs σ.Av σ.vars σ.qv,vs σ.Ap σ.ps σ.qp], .agg (Bc x).toArray] [all (x.kids Bc),ros Gb σ.Af σ.flags,ros He σ.Av σ.vars,ros Da σ.Ap σ.ps] (fun v Γ'=>v= .tuple #[ub t, .string nE,iv 0]∧Γ'=[]))(hal:e.args.length≤2)(hlA:Ku (Cn e.args))(hty:Nz σ (Cn e.args) u)(hu0:e.args.length=0→u=0)(hop:OpT σ e.op e.name u τ):
    Dz 249 [.agg #[vs σ.Af σ.flags σ.qf,vs σ.Av σ.vars σ.qv,vs σ.Ap σ.ps σ.qp], .agg (Bc e).toArray] [all (e.kids Bc),ros Gb σ.Af σ.flags,ros He σ.Av σ.vars,ros Da σ.Ap σ.ps] (fun v Γ'=>v= .tuple #[ub τ, .string nE,iv 0]∧Γ'=[]):=by
 obtain⟨har,hnm,htb⟩:=hop;refine Ba func249 ntmps249 fun w0=>?_;refine Js (cz (Jbo fun b2=>?_));refine Jbo fun b3=>?_;refine Jz 6 ?_;refine Bv 2 rfl (lsF Bc e.A e.args) (Lm _ _ _) (fun c hc=>by rw[Ky];exact hc) (Jz 4 ?_);refine Jqf (FD σ e.A e.q e.args u ih om hlA hty hu0) (by show owns (lsF Bc e.A e.args)++[]=[];rw[(Lm Bc e.A e.args).owns];rfl) (jS (lS 0 rfl) (jS (lS 4 rfl) (jS (lS 5 rfl) (jS (lS 6 rfl) (jP _))))) ?_;rintro _ _ ⟨rfl,rfl⟩;refine⟨rfl,?_⟩;refine Jz 32 ?_;refine Uo (T:=(Nat)×(Nat)) (fun t=>([(2,pv b2),(3,pv b3),(4,ub u),(7,ub ((t.1))),(8,ub ((t.2)))],[box b2 [vs σ.Af σ.flags σ.qf,vs σ.Av σ.vars σ.qv,vs σ.Ap σ.ps σ.qp] 315,box b3 (Bc e) 241,ros Gb σ.Af σ.flags,ros He σ.Av σ.vars,ros Da σ.Ap σ.ps])) (fun t=>((t.1)=u)∧((t.2)=τ)) ?_ ?_;refine Jz 8 ?_;refine aa rfl ?_ ?_<;>intro k23;refine Jsp (Jt (Ld (aOa (fun b=>some (Value.bool b)) (aOv k23)) (Jz 10 ?_)));refine Jq (Gl (Df (Cr (Cb (Ci (Cg (Rk (.inl rfl) results249 rfl rfl rfl ?_)))))));obtain rfl:τ=1:=om;exact⟨rfl,rfl⟩;refine Jz 5 ?_;refine aa rfl ?_ ?_<;>intro k23_2;refine Jz 10 ?_;refine Jq (Gl (Df (Cr (Cb (Ci (Cg (Rk (.inl rfl) results249 rfl rfl rfl ?_)))))));obtain rfl:τ=1:=om;exact⟨rfl,rfl⟩;refine Jz 7 ?_;refine aa rfl ?_ ?_<;>intro k26;refine Jsp (Jt (Ld (aOa (fun b=>some (Value.bool b)) (aOv k26)) (Jz 10 ?_)));refine Jq (Gl (Df (Cr (Cb (Ci (Cg (Rk (.inl rfl) results249 rfl rfl rfl ?_)))))));obtain rfl:τ=2:=om;exact⟨rfl,rfl⟩;refine Jz 5 ?_;refine aa rfl ?_ ?_<;>intro k26_2;refine Jz 10 ?_;refine Jq (Gl (Df (Cr (Cb (Ci (Cg (Rk (.inl rfl) results249 rfl rfl rfl ?_)))))));obtain rfl:τ=2:=om;exact⟨rfl,rfl⟩;refine Jz 6 ?_;refine aa rfl ?_ ?_<;>intro k29;refine Jz 5 ?_;refine Jvf (UX σ hσ e.name τ (hnm om)) rfl (jS (lS 4 rfl) (jS (lS 5 rfl) (jS (lS 6 rfl) (jP _)))) ?_;refine Jz 14 ?_;refine Jvf (Yt σ e.name τ) rfl (jP _) ?_;refine Jz 11 ?_;refine Jq (Gl (Df (Cr (Cb (Ci (Cg (Rk (.inl rfl) results249 rfl rfl rfl ?_)))))));exact⟨rfl,rfl⟩;refine Jz 6 ?_;refine aa rfl ?_ ?_<;>intro k47;refine Js (Jfw [] [1,4,103,105,306,100,102,307,8,9,10,11,12,13] (jP _) ?_);refine Jz 4 ?_;refine Fw.qf (fO σ hσ e.name (htb om)) (jS (lS 5 rfl) (jS (lS 6 rfl) (jP _))) ?_;refine Jz 2 ?_;refine Fw.qf (Yt σ e.name 1) (jP _) ?_;refine Jz 11 ?_;refine Jq (Gl (Df (Cr (Cb (Ci (Cg (Rk (.inl rfl) results249 rfl rfl rfl ?_)))))));obtain rfl:τ=1:=om;exact⟨rfl,rfl⟩;refine Jz 7 ?_;refine aa rfl ?_ ?_<;>intro k60;refine Jsp (Jt (Ld (aOa (fun b=>some (Value.bool b)) (aOv k60)) (Jz 7 ?_)));refine Md (u,2) ⟨om,om⟩;refine Jz 5 ?_;refine aa rfl ?_ ?_<;>intro k60_2;refine Jz 7 ?_;refine Md (u,2) ⟨om,om⟩;refine Jz 7 ?_;refine aa rfl ?_ ?_<;>intro k64;refine Jsp (Jt (Ld (aOa (fun b=>some (Value.bool b)) (aOv k64)) (Jz 6 ?_)));refine Md (2,2) ⟨om,om⟩;refine Jz 6 ?_;refine aa rfl ?_ ?_<;>intro k64_2;refine Jsp (Jt (Ld (aOa (fun b=>some (Value.bool b)) (aOv k64_2)) (Jz 6 ?_)));refine Md (2,2) ⟨om,om⟩;refine Jz 5 ?_;refine aa rfl ?_ ?_<;>intro k64_3;refine Jz 6 ?_;refine Md (2,2) ⟨om,om⟩;refine Jz 7 ?_;refine aa rfl ?_ ?_<;>intro k68;refine Jsp (Jt (Ld (aOa (fun b=>some (Value.bool b)) (aOv k68)) (Jz 5 ?_)));refine Md (1,2) ⟨om,om⟩;refine Jz 6 ?_;refine aa rfl ?_ ?_<;>intro k68_2;refine Jsp (Jt (Ld (aOa (fun b=>some (Value.bool b)) (aOv k68_2)) (Jz 5 ?_)));refine Md (1,2) ⟨om,om⟩;refine Jz 6 ?_;refine aa rfl ?_ ?_<;>intro k68_3;refine Jsp (Jt (Ld (aOa (fun b=>some (Value.bool b)) (aOv k68_3)) (Jz 5 ?_)));refine Md (1,2) ⟨om,om⟩;refine Jz 6 ?_;refine aa rfl ?_ ?_<;>intro k68_4;refine Jsp (Jt (Ld (aOa (fun b=>some (Value.bool b)) (aOv k68_4)) (Jz 5 ?_)));refine Md (1,2) ⟨om,om⟩;refine Jz 5 ?_;refine aa rfl ?_ ?_<;>intro k68_5;refine Jz 5 ?_;refine Md (1,2) ⟨om,om⟩;refine Jz 3 ?_;refine Md (1,1) ⟨om,om⟩;rintro⟨nd,rs⟩ ⟨hnd,hrs⟩;replace hnd:nd=u:=hnd;replace hrs:rs=τ:=hrs;dsimp only;refine Jz 5 ?_;refine Jr (Cs (v':=bf) (aOa Value.bool (aPe om)) (Rd.neq rfl rfl rfl)) ?_;refine Jz 11 ?_;refine JgP ?_ ?_<;>intro g80;refine Jz 8 ?_;refine Jfw [] [1,2,5,104,106,307,100,103,308,9,10,11,12,13,14] (jP _) ?_;refine Jz 5 ?_;refine Fw.qf (fO σ hσ e.name (htb om)) (jS (lS 3 rfl) (jS (lS 4 rfl) (jP _))) ?_;refine Jz 2 ?_;refine Fw.qf (Yt σ e.name rs) (jP _) ?_;refine Jz 10 ?_;refine Df (Cr (Cb (Ci (Cg (Rk (.inl rfl) results249 rfl rfl rfl ?_)))));subst hrs;exact⟨rfl,rfl⟩;refine Jz 6 ?_;refine aa rfl ?_ ?_<;>intro k84;refine Js (Jfw [] [1,2,5,104,106,307,100,103,308,9,10,11,12,13,14] (jP _) ?_);refine Jz 5 ?_;refine Fw.qf (fO σ hσ e.name (htb om)) (jS (lS 3 rfl) (jS (lS 4 rfl) (jP _))) ?_;refine Jz 2 ?_;refine Fw.qf (Yt σ e.name rs) (jP _) ?_;refine Jz 10 ?_;refine Df (Cr (Cb (Ci (Cg (Rk (.inl rfl) results249 rfl rfl rfl ?_)))));subst hrs;exact⟨rfl,rfl⟩;refine Jz 11 ?_;refine Df (Cr (Cb (Ci (Cg (Rk (.inl rfl) results249 rfl rfl rfl ?_)))));subst hrs;exact⟨rfl,rfl⟩
theorem rH(σ:Scp)(hσ:σ.Low):∀e:Ex,∀t:Nat,e.pure.low→e.pure.Ty σ t→Dz 249 [.agg #[vs σ.Af σ.flags σ.qf,vs σ.Av σ.vars σ.qv,vs σ.Ap σ.ps σ.qp], .agg (Bc e).toArray] [all (e.kids Bc),ros Gb σ.Af σ.flags,ros He σ.Av σ.vars,ros Da σ.Ap σ.ps] (fun v Γ'=>v= .tuple #[ub t, .string nE,iv 0]∧Γ'=[])
 | e,t,h1,h2=>by
   obtain⟨u,a,b,c⟩:=UW h2;exact yY σ hσ e t u (fun x hx=>rH σ hσ x) (Re h1).2 (Vf fun x hx=>by rw[Bi]at hx;obtain⟨y,hy,rfl⟩:=aOm.1 hx;exact Gv h1 hy) a b c
termination_by e=>SizeOf.sizeOf e
decreasing_by
 cases e with
 | mk op s n A q l=>
   have:=aPb (show x∈l from hx);simp only[Ex.mk.sizeOf_spec];omega
structure StT(F:Fl)(x:Cm)(σ:Scp)(k:Nat)(s h:yB)(es:List PE):Prop where
 k1:k=1→∃t,(t=1∨t=2)∧σ.Ch s t∧Nz σ es t
 k2:k=2∨k=3→σ.Ch s 3
 k9:k=9→σ.Ch s 1
 ke:k=2∨k=3∨k=6∨k=7∨k=8∨k=9→Nz σ es 1
 kb:k=4∨k=5→Nz σ es 2
 k6:k=6→∃c h',fdC F.comps s=some c∧fdH c.vers h=some h'∧es.length=h'.ps.length
 k7:k=7→∃h',fdH x.vers h=some h'∧es.length=h'.ps.length+1
mutual
def PS.Ty(F:Fl)(x:Cm)(σ:Scp):PS→Prop
 |⟨k,s,h,es,t,e⟩=>StT F x σ k s h es∧Lr F x σ t∧Lr F x σ e
def Lr(F:Fl)(x:Cm)(σ:Scp):List PS→Prop
 |[]=>True
 |s::r=>PS.Ty F x σ s∧Lr F x σ r
end
section
variable{F:Fl}{x:Cm}{σ:Scp}
theorem nO:∀{l:List PS},Lr F x σ l→∀s∈l,s.Ty F x σ
 |[],_,x,h=>by cases h
 | e::r,h,x,hx=>by
   rcases aNx.1 hx with rfl|hx
   ·exact h.1
   ·exact nO h.2 x hx
theorem Pv:∀{l:List PS},(∀s∈l,s.Ty F x σ)→Lr F x σ l
 |[],_=>trivial
 |e::r,h=>⟨h e (aNu ..),Pv fun x hx=>h x (aNs _ hx)⟩
theorem yZ{s:St}(h:s.pure.Ty F x σ):StT F x σ s.kind s.name s.hand (Cn s.exprs)∧Lr F x σ (Ai s.thn)∧Lr F x σ (Ai s.els):=by
 rw[Ir]at h;exact h
theorem rJ{l:List St}(h:Lr F x σ (Ai l)){s:St}(hx:s∈l):s.pure.Ty F x σ:=nO h s.pure (by rw[Dg];exact aOm.2 ⟨s,hx,rfl⟩)
end
theorem Vk(b bc:Nat)(F:Fl)(x:Cm)(σ:Scp)(hσ:σ.Low)(pl:yB)(n:Nat)(s:yB)(t:Nat)(h:σ.Ch s t):
    Dz 240 [pv b, .string s] [box b [pv bc,vs σ.Af σ.flags σ.qf,vs σ.Av σ.vars σ.qv,vs σ.Ap σ.ps σ.qp, .string x.name,vs x.Av x.vars x.qv,vs x.An x.vers x.qn, .string pl,nv n] 317,ros He σ.Av σ.vars,ros Da σ.Ap σ.ps] (fun v Γ'=>v=ub t∧Γ'=[box b [pv bc,vs σ.Af σ.flags σ.qf,vs σ.Av σ.vars σ.qv,vs σ.Ap σ.ps σ.qp, .string x.name,vs x.Av x.vars x.qv,vs x.An x.vers x.qn, .string pl,nv n] 317,ros He σ.Av σ.vars,ros Da σ.Ap σ.ps]):=by
 refine Ba func240 ntmps240 fun w0=>?_;refine Jz 10 ?_;refine Jr (Qc (i:=0) (us:=[vs σ.Af σ.flags σ.qf,vs σ.Av σ.vars σ.qv,vs σ.Ap σ.ps σ.qp]) rfl rfl aJt rfl (Ob (n:=3) rfl) rfl) ?_;refine Jm ?_;refine Jqf (JO σ hσ s _ h) rfl (jS (lS 1 rfl) (jS (lS 2 rfl) (jP _))) ?_;rintro _ _ ⟨w,rfl,rfl,hw⟩;refine⟨rfl,?_⟩;refine Jz 3 ?_;refine ae fun b5=>?_;refine Jz 20 ?_;refine Cg (ak results240 ?_);rw[hw];exact⟨rfl,rfl⟩
theorem Vl(b bc:Nat)(F:Fl)(x:Cm)(σ:Scp)(hσ:σ.Low)(pl:yB)(n:Nat)(w:yB)(t:Nat)(A:OA)(q:Nat)(l:List Ex)(hl:l.length≤12)(hlow:Ku (Cn l))(hty:Nz σ (Cn l) t):
    Dz 241 [pv b,ub t,vs A l q] [box b [pv bc,vs σ.Af σ.flags σ.qf,vs σ.Av σ.vars σ.qv,vs σ.Ap σ.ps σ.qp, .string x.name,vs x.Av x.vars x.qv,vs x.An x.vers x.qn, .string pl,nv n] 317,box bc (cF F [.string w, .string nE, .string nE,iv 0]) 192,all (lsF Bc A l),ros Gb σ.Af σ.flags,ros He σ.Av σ.vars,ros Da σ.Ap σ.ps] (fun v Γ'=>v= .tuple #[]∧Γ'=[box b [pv bc,vs σ.Af σ.flags σ.qf,vs σ.Av σ.vars σ.qv,vs σ.Ap σ.ps σ.qp, .string x.name,vs x.Av x.vars x.qv,vs x.An x.vers x.qn, .string pl,nv n] 317,box bc (cF F [.string w, .string nE, .string nE,iv 0]) 192]):=by
 refine Ba func241 ntmps241 fun w0=>?_;refine Js (bv 2 rfl (ros Bc A l) rfl (aNu ..) (Jz 7 ?_));refine Bw (fun s g mz ρ Γ=>∃(k:Nat),ρ=[s 0,s 1,s 11,s 12,(13,nv k)]∧Γ=[g 1,g 2,g 0,g 3,g 4,g 5,g 6]∧mz=l.length-k∧(k≤l.length)) ⟨⟨0,rfl,rfl,rfl,om⟩,sb⟩ ?_;rintro mz _ _ ⟨k,rfl,rfl,rfl,hk⟩;refine Jz 6 ?_;refine aa rfl ?_ ?_<;>intro c14;obtain⟨y,hy⟩:=ai l k om;refine Jz 8 ?_;refine ae fun b7=>?_;refine Jz 4 ?_;refine Bv 4 rfl (y.kids Bc) (Ex.lax Bc y) (Xq hy) (Jfw [] [0,1,2,103,104,405,6006,6007,6008,6009,6010,6011,6012] (jP _) ?_);refine Jz 3 ?_;refine Ki rfl (Qc (i:=2) (us:=[vs σ.Af σ.flags σ.qf,vs σ.Av σ.vars σ.qv,vs σ.Ap σ.ps σ.qp]) rfl rfl aJt rfl (Ob (n:=3) rfl) rfl) ?_;refine Jz 1 ?_;refine Dx rfl rfl rfl rfl rfl .fc (rH σ hσ y t (Lp hlow (sN hy)) (rG hty (sN hy))) (by show owns (y.kids Bc)++[]=[];rw[(Ex.lax Bc y).owns];rfl) (jS (lS 0 rfl) (jS (lS 6 rfl) (jS (lS 7 rfl) (jS (lS 8 rfl) (jP _))))) ?_;rintro _ _ ⟨rfl,rfl⟩;refine⟨rfl,?_⟩;refine Jz 17 ?_;refine af [3] (fK bc F w nE) ?_;rintro _ _ ⟨rfl,rfl⟩;refine Jz 9 ?_;refine Jr (Cs (v':=bt) (aOa Value.bool (aOv (rfl))) (Rd.eql rfl rfl rfl)) ?_;refine af [0] (Hf bc F w nE 10) ?_;rintro _ _ ⟨rfl,rfl⟩;refine Jz 8 ?_;refine Bp ⟨⟨k+1,rfl,rfl,rfl,om⟩,sb⟩;refine Jz 4 ?_;refine Jq (Gl (Df (Cr (Cb (Dr (.inr rfl) results241 ?_)))));exact⟨rfl,rfl⟩
theorem JP(b bc:Nat)(F:Fl)(x:Cm)(σ:Scp)(hσ:σ.Low)(pl:yB)(n:Nat)(w:yB)(y:Cm)(hn:yB)(h':Hd)(fi:Int)(A:OA)(q:Nat)(l:List Ex)(hl:l.length≤12)(hlow:Ku (Cn l))(hty:Nz σ (Cn l) 1)(hv:y.vers.length≤2∧∀v∈y.vers,v.l.length≤3)(hf:fdH y.vers hn=some h')(hfi:0≤fi∧fi≤1)(hle:(l.length:Int)-fi=h'.ps.length):
    Dz 242 [pv b, .agg (Gu y).toArray, .string hn,vs A l q,iv fi] [box b [pv bc,vs σ.Af σ.flags σ.qf,vs σ.Av σ.vars σ.qv,vs σ.Ap σ.ps σ.qp, .string x.name,vs x.Av x.vars x.qv,vs x.An x.vers x.qn, .string pl,nv n] 317,box bc (cF F [.string w, .string nE, .string nE,iv 0]) 192,all (lsF Bc A l),ros Gb σ.Af σ.flags,ros He σ.Av σ.vars,ros Da σ.Ap σ.ps,ros Fb y.An y.vers,all (y.vers.flatMap (Vs.kids eX))] (fun v Γ'=>v= .tuple #[]∧Γ'=[box b [pv bc,vs σ.Af σ.flags σ.qf,vs σ.Av σ.vars σ.qv,vs σ.Ap σ.ps σ.qp, .string x.name,vs x.Av x.vars x.qv,vs x.An x.vers x.qn, .string pl,nv n] 317,box bc (cF F [.string w, .string nE, .string nE,iv 0]) 192]):=by
 refine Ba func242 ntmps242 fun w0=>?_;refine Js (cz (Jbo fun b6=>?_));refine Jz 7 ?_;refine Jqf (FC y.An y.qn y.vers hn h' om hv.2 hf) (by show owns (y.vers.flatMap (Vs.kids eX))++[]=[];rw[(Gp (k:=Vs.kids eX) (l:=y.vers) fun h _=>Vs.lax eX h).owns];rfl) (jS (lS 7 rfl) (jS (lS 8 rfl) (jP _))) ?_;rintro _ _ ⟨rfl,rfl⟩;refine⟨rfl,?_⟩;refine Jz 3 ?_;refine ae fun b10=>?_;refine Jz 12 ?_;refine af [3] (Hf bc F w hn 9) ?_;rintro _ _ ⟨rfl,rfl⟩;refine Jz 3 ?_;refine Jfw [] [0,1,2,4,5,6,7,8,12,103,109,10,11,513] (jP _) ?_;refine Jz 6 ?_;refine df rfl (Fh rfl rfl rfl om) ?_;refine Jz 5 ?_;refine df rfl (Cs (v':=bt) (aOa Value.bool (aOv om)) (Rd.eql rfl rfl rfl)) ?_;refine Dl [0] (Hf bc F w hn 10) ?_;rintro _ _ ⟨rfl,rfl⟩;refine⟨jP _,?_⟩;refine Jz 5 ?_;refine af [3,0,2,2,2,2] (Vl b bc F x σ hσ pl n w 1 A q l hl hlow hty) ?_;rintro _ _ ⟨rfl,rfl⟩;refine Jn (Gl (Df (Cr (Cb (Dr (.inr rfl) results242 ?_)))));exact⟨rfl,rfl⟩
theorem aBn(b bc:Nat)(F:Fl)(x:Cm)(σ:Scp)(hσ:σ.Low)(pl:yB)(n:Nat)(w:yB)(hF:Mq F)(i:Nat)(hx:F.comps[i]?=some x)(s:St)(hle:s.exprs.length≤4)(hlow:Ku (Cn s.exprs))(hT:StT F x σ s.kind s.name s.hand (Cn s.exprs)):
    Dz 221 [pv b, .agg (Bl s).toArray] [box b [pv bc,vs σ.Af σ.flags σ.qf,vs σ.Av σ.vars σ.qv,vs σ.Ap σ.ps σ.qp, .string x.name,vs x.Av x.vars x.qv,vs x.An x.vers x.qn, .string pl,nv n] 317,box bc (cF F [.string w, .string nE, .string nE,iv 0]) 192,all (lsF Bc s.A s.exprs),ros Gb σ.Af σ.flags,ros He σ.Av σ.vars,ros Da σ.Ap σ.ps,all (F.kids eX)] (fun v Γ'=>v= .tuple #[]∧Γ'=[box b [pv bc,vs σ.Af σ.flags σ.qf,vs σ.Av σ.vars σ.qv,vs σ.Ap σ.ps σ.qp, .string x.name,vs x.Av x.vars x.qv,vs x.An x.vers x.qn, .string pl,nv n] 317,box bc (cF F [.string w, .string nE, .string nE,iv 0]) 192]):=by
 obtain⟨j1,j2,j9,je,jb,j6,j7⟩:=hT;have hFc:=hF.comps;refine Ba func221 ntmps221 fun w0=>?_;refine Js (cz (Jbo fun b3=>?_));refine Jz 15 ?_;refine aa rfl ?_ ?_<;>intro k9;refine Js ?_;obtain⟨t,ht,hch,hte⟩:=j1 om;refine Jz 4 ?_;refine af [1,4,4] (Vk b bc F x σ hσ pl n s.name t hch) ?_;rintro _ _ ⟨rfl,rfl⟩;refine Jz 7 ?_;refine JgP ?_ ?_<;>intro g17;refine Jz 11 ?_;refine af [0,3,3,3,0,0] (Vl b bc F x σ hσ pl n w t s.A s.q s.exprs om hlow hte) ?_;rintro _ _ ⟨rfl,rfl⟩;refine Jn (Jbn (Cr (Cb (Dr (.inr rfl) results221 ?_))));exact⟨rfl,rfl⟩;refine Jm ?_;refine Jr (Cs (v':=bt) (aOa Value.bool (aOv om)) (Rd.eql rfl rfl rfl)) ?_;refine Jz 9 ?_;refine af [0,3,3,3,0,0] (Vl b bc F x σ hσ pl n w t s.A s.q s.exprs om hlow hte) ?_;rintro _ _ ⟨rfl,rfl⟩;refine Jn (Jbn (Cr (Cb (Dr (.inr rfl) results221 ?_))));exact⟨rfl,rfl⟩;refine Jz 7 ?_;refine aa rfl ?_ ?_<;>intro k33;refine Jsp (Jt (Ld (aOa (fun b=>some (Value.bool b)) (aOv k33)) (Js (Jfw [box b [pv bc,vs σ.Af σ.flags σ.qf,vs σ.Av σ.vars σ.qv,vs σ.Ap σ.ps σ.qp, .string x.name,vs x.Av x.vars x.qv,vs x.An x.vers x.qn, .string pl,nv n] 317,box b3 (Bl s) 212] [0,1,2,3,4,5,6,9,10,507,8,511] (jS (lS 1 rfl) (jS (lS 0 rfl) (jP _))) ?_))));refine Jz 9 ?_;refine Dl [1,4,4] (Vk b bc F x σ hσ pl n s.name 3 (j2 om)) ?_;rintro _ _ ⟨rfl,rfl⟩;refine⟨jS (lS 0 rfl) (jS (lS 3 rfl) (jP _)),?_⟩;refine Jz 1 ?_;refine Dl [4] (Hf bc F w s.name 10) ?_;rintro _ _ ⟨rfl,rfl⟩;refine⟨jS (lS 1 rfl) (jS (lS 4 rfl) (jP _)),?_⟩;refine Jz 6 ?_;refine af [1,0,3,3,0,0] (Vl b bc F x σ hσ pl n w 1 s.A s.q s.exprs om hlow (je om)) ?_;rintro _ _ ⟨rfl,rfl⟩;refine Jn (Jbn (Cr (Cb (Dr (.inr rfl) results221 ?_))));exact⟨rfl,rfl⟩;refine Jz 5 ?_;refine aa rfl ?_ ?_<;>intro k33_2;refine Js (Jfw [box b [pv bc,vs σ.Af σ.flags σ.qf,vs σ.Av σ.vars σ.qv,vs σ.Ap σ.ps σ.qp, .string x.name,vs x.Av x.vars x.qv,vs x.An x.vers x.qn, .string pl,nv n] 317,box b3 (Bl s) 212] [0,1,2,3,4,5,6,9,10,507,8,511] (jS (lS 1 rfl) (jS (lS 0 rfl) (jP _))) ?_);refine Jz 9 ?_;refine Dl [1,4,4] (Vk b bc F x σ hσ pl n s.name 3 (j2 om)) ?_;rintro _ _ ⟨rfl,rfl⟩;refine⟨jS (lS 0 rfl) (jS (lS 3 rfl) (jP _)),?_⟩;refine Jz 1 ?_;refine Dl [4] (Hf bc F w s.name 10) ?_;rintro _ _ ⟨rfl,rfl⟩;refine⟨jS (lS 1 rfl) (jS (lS 4 rfl) (jP _)),?_⟩;refine Jz 6 ?_;refine af [1,0,3,3,0,0] (Vl b bc F x σ hσ pl n w 1 s.A s.q s.exprs om hlow (je om)) ?_;rintro _ _ ⟨rfl,rfl⟩;refine Jn (Jbn (Cr (Cb (Dr (.inr rfl) results221 ?_))));exact⟨rfl,rfl⟩;refine Jz 6 ?_;refine aa rfl ?_ ?_<;>intro k52;refine Js (Jfw [box b [pv bc,vs σ.Af σ.flags σ.qf,vs σ.Av σ.vars σ.qv,vs σ.Ap σ.ps σ.qp, .string x.name,vs x.Av x.vars x.qv,vs x.An x.vers x.qn, .string pl,nv n] 317,box b3 (Bl s) 212] [0,1,2,3,4,5,6,9,10,507,8,511] (jS (lS 1 rfl) (jS (lS 0 rfl) (jP _))) ?_);refine Jz 9 ?_;refine Dl [1,4,4] (Vk b bc F x σ hσ pl n s.name 1 (j9 om)) ?_;rintro _ _ ⟨rfl,rfl⟩;refine⟨jS (lS 0 rfl) (jS (lS 3 rfl) (jP _)),?_⟩;refine Jz 1 ?_;refine Dl [4] (Hf bc F w s.name 10) ?_;rintro _ _ ⟨rfl,rfl⟩;refine⟨jS (lS 1 rfl) (jS (lS 4 rfl) (jP _)),?_⟩;refine Jz 6 ?_;refine af [1,0,3,3,0,0] (Vl b bc F x σ hσ pl n w 1 s.A s.q s.exprs om hlow (je om)) ?_;rintro _ _ ⟨rfl,rfl⟩;refine Jn (Jbn (Cr (Cb (Dr (.inr rfl) results221 ?_))));exact⟨rfl,rfl⟩;refine Jz 7 ?_;refine aa rfl ?_ ?_<;>intro k70;refine Jsp (Jt (Ld (aOa (fun b=>some (Value.bool b)) (aOv k70)) (Jz 4 ?_)));refine af [1,1,1,1,1,1] (Vl b bc F x σ hσ pl n w 2 s.A s.q s.exprs om hlow (jb om)) ?_;rintro _ _ ⟨rfl,rfl⟩;refine Jn (Jbn (Cr (Cb (Dr (.inr rfl) results221 ?_))));exact⟨rfl,rfl⟩;refine Jz 5 ?_;refine aa rfl ?_ ?_<;>intro k70_2;refine Jz 4 ?_;refine af [1,1,1,1,1,1] (Vl b bc F x σ hσ pl n w 2 s.A s.q s.exprs om hlow (jb om)) ?_;rintro _ _ ⟨rfl,rfl⟩;refine Jn (Jbn (Cr (Cb (Dr (.inr rfl) results221 ?_))));exact⟨rfl,rfl⟩;refine Jz 6 ?_;refine aa rfl ?_ ?_<;>intro k77;refine Js ?_;obtain⟨c,h',hfc,hh',hhl⟩:=j6 om;obtain⟨ic,hic⟩:=aPr (List.mem_of_find?_eq_some hfc);have hcv:c.vers.length≤2∧∀v∈c.vers,v.l.length≤3:=⟨(hF.comp c (sN hic)).vers2,fun v hv=>((hF.comp c (sN hic)).ver v hv).1⟩
 refine bv 7 rfl (ros Gu F.Ac F.comps) rfl (Gj (k:=eX)) (Jfw [] [0,1,2,8,103,4,5,6,107,109,310,11,12,13,214,15515,16] (jP _) ?_);refine Jz 10 ?_;refine Fw.qf (nM F.Ac F.qc F.comps s.name c om hfc) (jS (lS 0 rfl) (jP _)) ?_;refine Jz 3 ?_;refine Fw.mk rfl rfl rfl rfl rfl (Mk.alloc rfl aJc) ?_;rintro _ _ ⟨b5,rfl,rfl⟩;refine dh rfl rfl rfl (Cf (i:=0) rfl rfl rfl MQ rfl rfl rfl (bta rfl)) (jP _) ?_;refine Jz 4 ?_;refine Jfw [] [0,1,2,4,5,103,106,507] (jP _) ?_;refine Jz 7 ?_;refine Dl [4] (Hf bc F w s.name 9) ?_;rintro _ _ ⟨rfl,rfl⟩;refine⟨jP _,?_⟩;refine Jz 2 ?_;refine Bv 9 rfl (c.kids eX) (Cm.lax eX c) (Dh hic) (bv 0 rfl (ros Fb c.An c.vers) rfl (Ij (k:=eX)) (Bv 1 rfl (c.vers.flatMap (Vs.kids eX)) (Gp fun h _=>Vs.lax eX h) (fun z hz=>aNs _ (aNs _ hz)) (Jz 7 ?_)));refine af [7,3,6,6,6,6,1,0] (JP b bc F x σ hσ pl n w c s.hand h' 0 s.A s.q s.exprs om hlow (je om) hcv hh' de (by rw[Bi,aNv]at hhl;omega)) ?_;rintro _ _ ⟨rfl,rfl⟩;refine Jn (Jbn (Jq (Gl (Df (Cr (Cb (Dr (.inr rfl) results221 ?_)))))));exact⟨rfl,rfl⟩;refine Jz 6 ?_;refine aa rfl ?_ ?_<;>intro k108;obtain⟨h',hh',hhl⟩:=j7 om;have hxv:x.vers.length≤2∧∀v∈x.vers,v.l.length≤3:=⟨(hF.comp x (sN hx)).vers2,fun v hv=>((hF.comp x (sN hx)).ver v hv).1⟩
 refine Bv 7 rfl (x.kids eX) (Cm.lax eX x) (Dh hx) (bv 0 rfl (ros Fb x.An x.vers) rfl (Ij (k:=eX)) (Bv 1 rfl (x.vers.flatMap (Vs.kids eX)) (Gp fun h _=>Vs.lax eX h) (fun z hz=>aNs _ (aNs _ hz)) (Jfw [] [0,1,2,3,5,7,104,106,108,509] (jP _) ?_)));refine Jz 6 ?_;refine Ki rfl (Qc (i:=4) (us:=(cX x [])) rfl rfl MQ rfl (Ob (n:=3) rfl) rfl) ?_;refine Jz 2 ?_;refine Dl [4,4,4,4,4,4,1,0] (JP b bc F x σ hσ pl n w x s.hand h' 1 s.A s.q s.exprs om hlow (je om) hxv hh' de (by rw[Bi,aNv]at hhl;omega)) ?_;rintro _ _ ⟨rfl,rfl⟩;refine⟨jP _,?_⟩;refine Jz 2 ?_;refine Df (Cr (Cb (Dr (.inr rfl) results221 ?_)));exact⟨rfl,rfl⟩;refine Jz 6 ?_;refine aa rfl ?_ ?_<;>intro k120;refine Jz 4 ?_;refine af [1,1,1,1,1,1] (Vl b bc F x σ hσ pl n w 1 s.A s.q s.exprs om hlow (je om)) ?_;rintro _ _ ⟨rfl,rfl⟩;refine Jn (Jbn (Cr (Cb (Dr (.inr rfl) results221 ?_))));exact⟨rfl,rfl⟩;refine Jz 2 ?_;refine Wu (Jq (Gl (Df (Cr (Cg (Dr (.inr rfl) results221 ?_))))));exact⟨rfl,rfl⟩
theorem FE(b bc:Nat)(F:Fl)(x:Cm)(σ:Scp)(hσ:σ.Low)(pl:yB)(hpl:pl.size≤100)(hF:Mq F)(i:Nat)(hx:F.comps[i]?=some x)(l:List St)(ih:∀s∈l,(∀(A:OA) (q n:Nat) (w:yB),s.thn.length≤12→Cu (Ai s.thn)→Lr F x σ (Ai s.thn)→n+Be (Ai s.thn)≤1000→Dz 180 [pv b,vs A s.thn q] [box b [pv bc,vs σ.Af σ.flags σ.qf,vs σ.Av σ.vars σ.qv,vs σ.Ap σ.ps σ.qp, .string x.name,vs x.Av x.vars x.qv,vs x.An x.vers x.qn, .string pl,nv n] 317,box bc (cF F [.string w, .string nE, .string nE,iv 0]) 192,all (lsG Bc Bl A s.thn),ros Gb σ.Af σ.flags,ros He σ.Av σ.vars,ros Da σ.Ap σ.ps,all (F.kids eX),ax] (fun v Γ'=>∃w':yB,v= .tuple #[]∧Γ'=[box b [pv bc,vs σ.Af σ.flags σ.qf,vs σ.Av σ.vars σ.qv,vs σ.Ap σ.ps σ.qp, .string x.name,vs x.Av x.vars x.qv,vs x.An x.vers x.qn, .string pl,nv ((n+Be (Ai s.thn)))] 317,box bc (cF F [.string w', .string nE, .string nE,iv 0]) 192]))∧(∀(A:OA) (q n:Nat) (w:yB),s.els.length≤12→Cu (Ai s.els)→Lr F x σ (Ai s.els)→n+Be (Ai s.els)≤1000→Dz 180 [pv b,vs A s.els q] [box b [pv bc,vs σ.Af σ.flags σ.qf,vs σ.Av σ.vars σ.qv,vs σ.Ap σ.ps σ.qp, .string x.name,vs x.Av x.vars x.qv,vs x.An x.vers x.qn, .string pl,nv n] 317,box bc (cF F [.string w, .string nE, .string nE,iv 0]) 192,all (lsG Bc Bl A s.els),ros Gb σ.Af σ.flags,ros He σ.Av σ.vars,ros Da σ.Ap σ.ps,all (F.kids eX),ax] (fun v Γ'=>∃w':yB,v= .tuple #[]∧Γ'=[box b [pv bc,vs σ.Af σ.flags σ.qf,vs σ.Av σ.vars σ.qv,vs σ.Ap σ.ps σ.qp, .string x.name,vs x.Av x.vars x.qv,vs x.An x.vers x.qn, .string pl,nv ((n+Be (Ai s.els)))] 317,box bc (cF F [.string w', .string nE, .string nE,iv 0]) 192])))(A:OA)(q n:Nat)(w:yB)(hl:l.length≤12)(hlow:Cu (Ai l))(hty:Lr F x σ (Ai l))(hb:n+Be (Ai l)≤1000):
    Dz 180 [pv b,vs A l q] [box b [pv bc,vs σ.Af σ.flags σ.qf,vs σ.Av σ.vars σ.qv,vs σ.Ap σ.ps σ.qp, .string x.name,vs x.Av x.vars x.qv,vs x.An x.vers x.qn, .string pl,nv n] 317,box bc (cF F [.string w, .string nE, .string nE,iv 0]) 192,all (lsG Bc Bl A l),ros Gb σ.Af σ.flags,ros He σ.Av σ.vars,ros Da σ.Ap σ.ps,all (F.kids eX),ax] (fun v Γ'=>∃w':yB,v= .tuple #[]∧Γ'=[box b [pv bc,vs σ.Af σ.flags σ.qf,vs σ.Av σ.vars σ.qv,vs σ.Ap σ.ps σ.qp, .string x.name,vs x.Av x.vars x.qv,vs x.An x.vers x.qn, .string pl,nv ((n+Be (Ai l)))] 317,box bc (cF F [.string w', .string nE, .string nE,iv 0]) 192]):=by
 refine Ba func180 ntmps180 fun w0=>?_;refine Js (bv 2 rfl (ros Bl A l) rfl (aNu ..) (Jz 7 ?_));refine Bw (fun s g mz ρ Γ=>∃(m:Nat) (ww:yB) (k:Nat),ρ=[s 0,s 6,s 7,(8,nv k)]∧Γ=[box b [pv bc,vs σ.Af σ.flags σ.qf,vs σ.Av σ.vars σ.qv,vs σ.Ap σ.ps σ.qp, .string x.name,vs x.Av x.vars x.qv,vs x.An x.vers x.qn, .string pl,nv m] 317,box bc (cF F [.string ww, .string nE, .string nE,iv 0]) 192,g 0,g 3,g 4,g 5,g 6,g 7,ax]∧mz=l.length-k∧(k≤l.length)∧(m=n+Be (Ai (l.take k)))) ⟨⟨n,w,0,rfl,rfl,rfl,om,rfl⟩,sb⟩ ?_;rintro mz _ _ ⟨m,ww,k,rfl,rfl,rfl,hk,hm⟩;refine Jz 6 ?_;refine aa rfl ?_ ?_<;>intro k9;obtain⟨s,hs⟩:=ai l k om;obtain⟨hsk,⟨hse,hsl⟩,⟨hst,hstl⟩,hsn,hsnl⟩:=Ii (Hy hlow (sN hs));have hsT:=yZ (rJ hty (sN hs));have hsm:s.pure∈Ai l:=by rw[Dg];exact aOm.2 ⟨s,sN hs,rfl⟩
 have htk:Ai (l.take (k+1))=Ai (l.take k)++[s.pure]:=by rw[Cj hs,Dg,aOb,←Dg];rfl
 have hsc:PS.cnt s.pure=1+Be (Ai s.thn)+Be (Ai s.els):=by rw[Ir s];rfl
 have hcs:Be (Ai (l.take (k+1)))=Be (Ai (l.take k))+PS.cnt s.pure:=by rw[htk,Kr];show _+(PS.cnt s.pure+0)=_;omega
 have hall:Be (Ai (l.take (k+1)))≤Be (Ai l):=by
  have h1:Ai l=Ai (l.take (k+1))++Ai (l.drop (k+1)):=by rw[Dg,Dg,Dg,←aOb,aPn]
  rw[h1,Kr];omega
 refine Jz 8 ?_;refine ae fun b5=>?_;refine Jz 5 ?_;refine Jfw [] [0,1,2,4,5,6,8,9,10,111,312,103,107,13,514,15] (jP _) ?_;refine Jz 10 ?_;refine Fw.qf (itoa_fn ((m:Nat):Int) om om) (jS (lS 9 rfl) (jP _)) ?_;refine Jz 2 ?_;refine df rfl (Dj (a:=pl) (b:=(BA (Lib.itoa ((m:Nat):Int)))) rfl rfl rfl (by rw[BA_size];have:=itoa_len (n:=((m:Nat):Int)) om om;omega)) ?_;refine Dl [2] (rF bc F ww (pl++(BA (Lib.itoa ((m:Nat):Int))))) ?_;rintro _ _ ⟨rfl,rfl⟩;refine⟨jP _,?_⟩;refine Jz 19 ?_;refine Bv 4 rfl (lsG Bc Bl s.Ae s.els) (Co _ _ _ _) (fun c hc=>Hw hs c (Fe s c hc)) (Bv 5 rfl (lsG Bc Bl s.At s.thn) (Co _ _ _ _) (fun c hc=>Hw hs c (Gn s c hc)) (Bv 6 rfl (lsF Bc s.A s.exprs) (Lm _ _ _) (fun c hc=>Hw hs c (Kz s c hc)) (Qb 10 rfl rfl (Qb 10 rfl rfl (Qb 10 rfl rfl (Bv 14 rfl (F.kids eX) (Fl.lax eX F) (fun c hc=>hc) (Jz 3 ?_)))))));refine af [9,7,4,1,1,1,0] (aBn b bc F x σ hσ pl (m+1) (pl++(BA (Lib.itoa ((m:Nat):Int)))) hF i hx s hse hsl hsT.1) ?_;rintro _ _ ⟨rfl,rfl⟩;refine Jz 3 ?_;refine Qb 9 rfl rfl (Qb 9 rfl rfl (Qb 9 rfl rfl (Bv 13 rfl (F.kids eX) (Fl.lax eX F) (fun c hc=>hc) (Qb 15 rfl rfl (Jz 4 ?_)))));refine af [5,5,5,2,2,2,1,0] ((ih s (sN hs)).1 s.At s.qt (m+1) (pl++(BA (Lib.itoa ((m:Nat):Int)))) hst hstl hsT.2.1 om) ?_;rintro _ _ ⟨w2,rfl,rfl⟩;refine Jn (Jt (Qb 8 rfl rfl (Qb 8 rfl rfl (Qb 8 rfl rfl (Bv 12 rfl (F.kids eX) (Fl.lax eX F) (fun c hc=>hc) (Qb 14 rfl rfl (Jz 4 ?_)))))));refine af [5,5,5,2,2,2,1,0] ((ih s (sN hs)).2 s.Ae s.qe (m+1+Be (Ai s.thn)) w2 hsn hsnl hsT.2.2 om) ?_;rintro _ _ ⟨w2_2,rfl,rfl⟩;refine Jz 8 ?_;refine Bp ⟨⟨((m+1+Be (Ai s.thn))+Be (Ai s.els)),w2_2,k+1,rfl,rfl,rfl,om,(by rw[hcs,hsc];omega)⟩,sb⟩;refine Jz 4 ?_;refine pW (Wu (Jq (Gl (Df (Cr (Cb (Dr (.inr rfl) results180 ?_)))))));obtain rfl:k=l.length:=om;rw[hm,List.take_length];exact⟨_,rfl,rfl⟩
theorem nP(b bc:Nat)(F:Fl)(x:Cm)(σ:Scp)(hσ:σ.Low)(pl:yB)(hpl:pl.size≤100)(hF:Mq F)(i:Nat)(hx:F.comps[i]?=some x):∀l:List St,∀(A:OA) (q n:Nat) (w:yB),l.length≤12→Cu (Ai l)→Lr F x σ (Ai l)→n+Be (Ai l)≤1000→Dz 180 [pv b,vs A l q] [box b [pv bc,vs σ.Af σ.flags σ.qf,vs σ.Av σ.vars σ.qv,vs σ.Ap σ.ps σ.qp, .string x.name,vs x.Av x.vars x.qv,vs x.An x.vers x.qn, .string pl,nv n] 317,box bc (cF F [.string w, .string nE, .string nE,iv 0]) 192,all (lsG Bc Bl A l),ros Gb σ.Af σ.flags,ros He σ.Av σ.vars,ros Da σ.Ap σ.ps,all (F.kids eX),ax] (fun v Γ'=>∃w':yB,v= .tuple #[]∧Γ'=[box b [pv bc,vs σ.Af σ.flags σ.qf,vs σ.Av σ.vars σ.qv,vs σ.Ap σ.ps σ.qp, .string x.name,vs x.Av x.vars x.qv,vs x.An x.vers x.qn, .string pl,nv ((n+Be (Ai l)))] 317,box bc (cF F [.string w', .string nE, .string nE,iv 0]) 192])
 |l,A,q,n,w,h1,h2,h3,h4=>FE b bc F x σ hσ pl hpl hF i hx l (fun s hs=>⟨nP b bc F x σ hσ pl hpl hF i hx s.thn,nP b bc F x σ hσ pl hpl hF i hx s.els⟩) A q n w h1 h2 h3 h4
termination_by l=>SizeOf.sizeOf l
decreasing_by
 all_goals
  have h:=aPb hs;have:SizeOf.sizeOf s.thn<SizeOf.sizeOf s∧SizeOf.sizeOf s.els<SizeOf.sizeOf s:=by cases s;simp only[St.mk.sizeOf_spec];omega
  omega
theorem Gd{s:yB}(h:Np s):s.size≤6:=by
 obtain⟨t,ht,rfl⟩:=h;have h1:Si.all (fun t=>decide (t.length≤6))=true:=rfl;have h2:t.length≤6:=by simpa using aPt.1 h1 t ht
 show(t.map UInt8.ofNat).toArray.size≤6;rw[List.size_toArray,aNv];exact h2
def Dis{α:Type}(f:α→yB)(l:List α):Prop:=∀k x,l[k]?=some x→∀y∈l.take k,f y≠f x
theorem Dis.of{α:Type}{f:α→yB}{l:List α}(h:∀(i j:Nat) (x y:α),i<j→l[i]?=some x→l[j]?=some y→f x≠f y):Dis f l:=fun k x hx y hy=>by
 obtain⟨i,hi⟩:=aPr hy;have hik:i<k:=by have:=(aNr.1 hi).1;rw[aOh]at this;omega
 exact h i k y x hik (by rw[aQq hik]at hi;exact hi) hx
theorem Dis.ix{α:Type}{f:α→yB}{l:List α}(h:Dis f l){k:Nat}{x:α}(hx:l[k]?=some x):bi (f x) 0 ((l.take k).map f)=none:=Kt fun hm=>by
 obtain⟨y,hy,e⟩:=aOm.1 hm;exact h k x hx y hy e
theorem Dis.fd{α:Type}{f:α→yB}{l:List α}(h:Dis f l){k:Nat}{x:α}(hx:l[k]?=some x):(l.take k).find? (fun y:α=>decide (f y=f x))=none:=List.find?_eq_none.2 fun y hy=>by simpa using h k x hx y hy
theorem Dis.fs{α:Type}{f:α→yB}{l:List α}(h:Dis f l){k:Nat}{x:α}(hx:l[k]?=some x):l.find? (fun y:α=>decide (f y=f x))=some x:=by
 have h1:=h.fd hx;obtain⟨hk,he⟩:=aNr.1 hx;rw[←aPn k l,List.find?_append,h1,Option.none_or,aPy hk,he,List.find?_cons_of_pos sm]
theorem Dis.nms{α:Type}{f:α→yB}{l:List α}{c n:Nat}(hc:c<256)(hn:n<200)(h:l.map f=Go.Proofs.YtihgdnjkofpgiaaGreatDoor.nms c n):Dis f l:=Dis.of fun i j x y hij hx hy e=>by
 have hln:l.length=n:=by rw[←aNv (f:=f),h,Dq]
 have hj:=(aNr.1 hy).1;have g:∀i x,l[i]?=some x→f x=nm c i:=fun i x hx=>by
  have hi:=(aNr.1 hx).1;have h1:(l.map f)[i]?=some (f x):=by rw[aOf,hx];rfl
  rw[h,Dw om]at h1;exact(aOj h1).symm
 rw[g i x hx,g j y hy]at e;have:=(Pq hc hc om om e).2;omega
def aBo:List yB→Bool
 |[]=>true
 |s::r=>decide (s∉r)&&aBo r
theorem JQ{α:Type}{f:α→yB}:∀{l:List α},aBo (l.map f)=true→∀(i j:Nat) (x y:α),i<j→l[i]?=some x→l[j]?=some y→f x≠f y
 |[],_,i,j,x,y,_,h,_=>by simp at h
 | a ::r,h,i,j,x,y,hij,hx,hy=>by
   obtain⟨h1,h2⟩:=(aOc _ _).mp (show(decide (f a∉r.map f)&&aBo (r.map f))=true from h);obtain⟨j,rfl⟩:∃k,j=k+1:=⟨j-1,by omega⟩
   have hy:r[j]?=some y:=by simpa using hy
   cases i with
   | zero=>
     have hx:a=x:=by simpa using hx
     intro e;exact aQn h1 (by rw[hx,e];exact aOm.2 ⟨y,sN hy,rfl⟩)
   |succ i=>exact JQ h2 i j x y om (by simpa using hx) hy
theorem UY:∀a<4,∀b<2,aBo ((varsOf a b).map Vr.name)=true:=by decide+kernel
theorem aGr:∀a<4,∀b<2,∀k<a,(fdV (varsOf a b) (nm 120 k)).map Vr.ty=some 1:=by decide+kernel
theorem aGs:∀a<4,∀b<2,(fdV (varsOf a b) nB0).map Vr.ty=some 2:=by decide+kernel
theorem aGt:∀a<4,(fdV (varsOf a 1) nT0).map Vr.ty=some 3:=by decide+kernel
theorem aGu:∀a<4,∀b<2,∀k<2,(fdV (varsOf a b) (nm 102 k)).isNone=true:=by decide+kernel
theorem aGv:∀a<4,∀b<2,∀k<2,(fdV (varsOf a b) (nm 112 k)).isNone=true:=by decide+kernel
theorem aBp:∀a<4,∀b<2,∀n<3,(varsOf a b).all (fun v=>decide (v.name∉nms 102 n))=true:=by decide+kernel
theorem aBq:∀i<3,∀n<3,nC i∉nms 102 n:=by decide+kernel
section
variable{F:Fl}{x:Cm}{ct:Ct}{ar:List Nat}{i np:Nat}{σ:Scp}
structure Ry(F:Fl)(x:Cm)(ct:Ct)(np:Nat)(σ:Scp):Prop where
 ok:ct.Ok
 n2:np≤2
 fl:σ.flags.map Fg.name=nms 102 ct.flags
 vs:σ.vars=varsOf ct.ints ct.tables
 ps:σ.ps=nms 112 np
 to:∀(k:Nat) (a:List Nat) (h n:Nat),ct.ars[k]?=some a→a[h]?=some n→∃c h',fdC F.comps (nC k)=some c∧fdH c.vers (nm 104 h)=some h'∧n=h'.ps.length
 me:∀(a:List Nat) (h n:Nat),ct.ars[ct.own]?=some a→a[h]?=some n→∃h',fdH x.vers (nm 104 h)=some h'∧n=h'.ps.length
theorem Ry.pn(h:Ry F x ct np σ){c k:Nat}(hc:c<256)(hk:k<200)(hne:112≠c):(bi (nm c k) 0 σ.ps).isSome=false:=by
 have:=h.n2;rw[h.ps,Kt (Rb de hc om hk hne)];rfl
theorem Ry.chx(h:Ry F x ct np σ){k:Nat}(hk:k<ct.ints):σ.Ch (nm 120 k) 1:=by
 have hi:=h.ok.ints;have ht:=h.ok.tables;have h1:=aGr ct.ints om ct.tables om k hk;rw[←h.vs]at h1;obtain⟨v,hv,e⟩:=aOr.1 h1;exact⟨h.pn de om de,v,hv,e⟩
theorem Ry.chb(h:Ry F x ct np σ):σ.Ch nB0 2:=by
 have hi:=h.ok.ints;have ht:=h.ok.tables;have h1:=aGs ct.ints om ct.tables om;rw[←h.vs]at h1;obtain⟨v,hv,e⟩:=aOr.1 h1;exact⟨h.pn (c:=98) (k:=0) de de de,v,hv,e⟩
theorem Ry.cht(h:Ry F x ct np σ)(h0:0<ct.tables):σ.Ch nT0 3:=by
 have hi:=h.ok.ints;have ht:=h.ok.tables;have h1:=aGt ct.ints om;rw[show(1:Nat)=ct.tables by omega,←h.vs]at h1;obtain⟨v,hv,e⟩:=aOr.1 h1;exact⟨h.pn (c:=116) (k:=0) de de de,v,hv,e⟩
theorem Scp.Ch.nm{s:yB}{t:Nat}(h:σ.Ch s t)(ht:t≠3):σ.Nm s t:=by
 obtain⟨h1,v,h2,h3⟩:=h;exact .inr (.inl ⟨h1,v,h2,by rw[h3];exact ht,h3.symm⟩)
theorem Ry.nmp(h:Ry F x ct np σ){k:Nat}(hk:k<np):σ.Nm (nm 112 k) 1:=by
 have:=h.n2;refine .inl ⟨?_,rfl⟩;rw[h.ps,Ti de om hk 0];rfl
theorem Ry.nmf(h:Ry F x ct np σ){k:Nat}(hk:k<ct.flags):σ.Nm (nm 102 k) 2:=by
 have hi:=h.ok.ints;have ht:=h.ok.tables;have hf:=h.ok.flags;have h1:=aGu ct.ints om ct.tables om k om;rw[←h.vs]at h1;refine .inr (.inr ⟨h.pn de om de,Option.isNone_iff_eq_none.1 h1,?_,rfl⟩);rw[h.fl,Ti de om hk 0];rfl
theorem ty0{σ:Scp}{o:Nat}{s:yB}{n:Int}{t:Nat}(ho:OpT σ o s 0 t):PE.Ty σ ⟨o,s,n,[]⟩ t:=⟨0,trivial,fun _=>rfl,ho⟩
theorem ty1{σ:Scp}{o:Nat}{s:yB}{n:Int}{u t:Nat}{a:PE}(ha:a.Ty σ u)(ho:OpT σ o s u t):PE.Ty σ ⟨o,s,n,[a]⟩ t:=⟨u,⟨ha,trivial⟩,fun h=>aOx h (show¬1=0 by decide),ho⟩
theorem ty2{σ:Scp}{o:Nat}{s:yB}{n:Int}{u t:Nat}{a b:PE}(ha:a.Ty σ u)(hb:b.Ty σ u)(ho:OpT σ o s u t):PE.Ty σ ⟨o,s,n,[a,b]⟩ t:=⟨u,⟨ha,hb,trivial⟩,fun h=>aOx h (by show¬2=0;decide),ho⟩
theorem Kq.ty(h:Ry F x ct np σ){d:Nat}{e:PE}(he:Kq ct np d e):e.Ty σ 1:=by
 induction he with
 |num d n hn=>exact ty0 ⟨by omega,by omega,by omega⟩
 |var d k hk=>exact ty0 ⟨by omega,fun _=>(h.chx hk).nm de,by omega⟩
 |par d k hk=>exact ty0 ⟨by omega,fun _=>h.nmp hk,by omega⟩
 |now d=>exact ty0 ⟨by omega,by omega,by omega⟩
 |get d e ht he ih=>exact ty1 ih ⟨by omega,by omega,fun _=>h.cht ht⟩
 |size d ht=>exact ty0 ⟨by omega,by omega,fun _=>h.cht ht⟩
 |neg d e he ih=>exact ty1 ih ⟨by omega,by omega,by omega⟩
 |bin d op a b ho ha hb iha ihb=>exact ty2 iha ihb ⟨by omega,by omega,by omega⟩
theorem Ow.ty(h:Ry F x ct np σ){d:Nat}{e:PE}(he:Ow ct np d e):e.Ty σ 2:=by
 induction he with
 |tf d op ho=>exact ty0 ⟨by omega,by omega,by omega⟩
 |b0 d=>exact ty0 ⟨by omega,fun _=>h.chb.nm de,by omega⟩
 |flag d k hk=>exact ty0 ⟨by omega,fun _=>h.nmf hk,by omega⟩
 |has d e ht he=>exact ty1 (he.ty h) ⟨by omega,by omega,fun _=>h.cht ht⟩
 |not d e he ih=>exact ty1 ih ⟨by omega,by omega,by omega⟩
 |two d op a b ho ha hb iha ihb=>exact ty2 iha ihb ⟨by omega,by omega,by omega⟩
 |cmp d op a b ho ha hb=>exact ty2 (ha.ty h) (hb.ty h) ⟨by omega,by omega,by omega⟩
theorem NZ{σ:Scp}{u:Nat}{a:PE}(h:a.Ty σ u):Nz σ [a] u:=⟨h,trivial⟩
theorem aKs{σ:Scp}{u:Nat}{a b:PE}(h:a.Ty σ u)(k:b.Ty σ u):Nz σ [a,b] u:=⟨h,k,trivial⟩
theorem StE.ty(h:Ry F x ct np σ){d:Nat}{s:PS}(hs:StE ct np d s):s.Ty F x σ:=by
 induction hs with
 |setB d e he=>exact⟨⟨fun _=>⟨2, .inr rfl,h.chb,NZ (he.ty h)⟩,by omega,by omega,by omega,by omega,by omega,by omega⟩,trivial,trivial⟩
 |setX d k e hk he=>exact⟨⟨fun _=>⟨1, .inl rfl,h.chx hk,NZ (he.ty h)⟩,by omega,by omega,by omega,by omega,by omega,by omega⟩,trivial,trivial⟩
 |put d a b ht ha hb=>exact⟨⟨by omega,fun _=>h.cht ht,by omega,fun _=>aKs (ha.ty h) (hb.ty h),by omega,by omega,by omega⟩,trivial,trivial⟩
 |del d a ht ha=>exact⟨⟨by omega,fun _=>h.cht ht,by omega,fun _=>NZ (ha.ty h),by omega,by omega,by omega⟩,trivial,trivial⟩
 |ife d e t l he ht hl iht ihl=>exact⟨⟨by omega,by omega,by omega,by omega,fun _=>NZ (he.ty h),by omega,by omega⟩,Pv iht,Pv ihl⟩
 |whl d e t he ht iht=>exact⟨⟨by omega,by omega,by omega,by omega,fun _=>NZ (he.ty h),by omega,by omega⟩,Pv iht,trivial⟩
 |send d to k a l ha hh hl=>exact⟨⟨by omega,by omega,by omega,fun _=>fM fun e he=>(hl e he).ty h,by omega,fun _=>h.to to a k _ ha hh,by omega⟩,trivial,trivial⟩
 | after d k a e l ha hh he hl=>
   refine⟨⟨by omega,by omega,by omega,fun _=>⟨he.ty h,fM fun e he=>(hl e he).ty h⟩,by omega,by omega,fun _=>?_⟩,trivial,trivial⟩;obtain⟨h',h1,h2⟩:=h.me a k _ ha hh;exact⟨h',h1,by rw[ag,h2]⟩
 |store d a b l ha hb hl ihl=>exact⟨⟨by omega,by omega,by omega,fun _=>aKs (ha.ty h) (hb.ty h),by omega,by omega,by omega⟩,trivial,Pv ihl⟩
 |fetch d k e l hk he hl ihl=>exact⟨⟨by omega,by omega,fun _=>h.chx hk,fun _=>NZ (he.ty h),by omega,by omega,by omega⟩,trivial,Pv ihl⟩
 |stop d=>exact⟨⟨by omega,by omega,by omega,by omega,by omega,by omega,by omega⟩,trivial,trivial⟩
end
structure TyH(F:Fl)(x:Cm)(h:Hd):Prop where
 ps:∀k p,h.ps[k]?=some p→fdV x.vars p=none∧bi p 0 (F.flags.map Fg.name)=none∧bi p 0 (h.ps.take k)=none
 body:Lr F x ⟨F.Af,F.qf,F.flags,x.Av,x.qv,x.vars,h.Ap,h.qp,h.ps⟩ (Ai h.body)
structure TyC(F:Fl)(i:Nat)(x:Cm):Prop where
 new:fdC (F.comps.take i) x.name=none
 nfl:bi x.name 0 (F.flags.map Fg.name)=none
 var:∀k v,x.vars[k]?=some v→fdV (x.vars.take k) v.name=none∧bi v.name 0 (F.flags.map Fg.name)=none
 hd:∀n v,x.vers[n]?=some v→∀k h,v.l[k]?=some h→(v.l.take k).find? (fun y:Hd=>decide (y.name=h.name))=none∧(∀h',fdH (x.vers.take n) h.name=some h'→h'.ps.length=h.ps.length)∧TyH F x h
structure TyF(F:Fl):Prop where
 fl:∀k z,F.flags[k]?=some z→bi z.name 0 ((F.flags.take k).map Fg.name)=none
 lk:∀z∈F.links,(∃c,fdC F.comps z.src=some c)∧∃c,fdC F.comps z.dst=some c
 ln:∀k z,F.links[k]?=some z→∀y∈F.links.take k,¬(y.src=z.src∧y.dst=z.dst)
 comp:∀i c,F.comps[i]?=some c→TyC F i c
theorem zA{F:Fl}{x:Cm}{ct:Ct}{ar:List Nat}{i:Nat}(ok:OkC F.pure i x.pure ct ar){h:Hd}{s:yB}{l:List Vs}(hl:∀v∈l,v∈x.vers)(hf:fdH l s=some h):∃k np,s=nm 104 k∧k<3∧ar[k]?=some np∧h.ps=nms 112 np:=by
 have hn:h.name=s:=by simpa using List.find?_some hf
 obtain⟨v,hv,hm⟩:=aOs.1 (List.mem_of_find?_eq_some hf);obtain⟨k,hk⟩:=aPr hm;have gv:=ok.vers v.pure (aOm.2 ⟨v,hl v hv,rfl⟩);have gh:=gv.2.2 k h.pure (by show(v.l.map Hd.pure)[k]?=_;rw[aOf,hk];rfl);obtain⟨np,h1,h2,_⟩:=gh.ps;have h3:h.name=nm 104 k:=gh.name;have har:=ok.ok.each ar (sN ok.arr);have:=(aNr.1 h1).1;exact⟨k,np,by rw[←hn,h3],by omega,h1,h2⟩
theorem UZ{F:Fl}{x:Cm}{ct:Ct}{ar:List Nat}{i:Nat}(ok:OkC F.pure i x.pure ct ar)(hx:∃v∈x.pure.vers,v.length=ar.length){k n:Nat}(hk:ar[k]?=some n):∃h',fdH x.vers (nm 104 k)=some h'∧n=h'.ps.length:=by
 obtain⟨v,hv,hvl⟩:=hx;obtain⟨v,hv2,rfl⟩:=aOm.1 (show v∈x.vers.map Vs.pure from hv);have hkl:=(aNr.1 hk).1;have hpl:v.pure.length=v.l.length:=aNv ..;have gv:=ok.vers v.pure hv;have hh:v.l[k]?=some (v.l[k]'om):=gge _;have gh:=gv.2.2 k _ (by show(v.l.map Hd.pure)[k]?=_;rw[aOf,hh];rfl);have hsome:(fdH x.vers (nm 104 k)).isSome=true:=by
  unfold fdH;rw[List.find?_isSome];exact⟨_,aOs.2 ⟨v,hv2,sN hh⟩,aOv gh.name⟩
 obtain⟨h',hf⟩:=aQi.1 hsome;obtain⟨j,np,e,hj,h1,h2⟩:=zA ok (fun _ h=>h) hf;have har:=ok.ok.each ar (sN ok.arr);have e2:=(Pq de de om om e).2;subst e2;rw[hk]at h1;exact⟨h',hf,by rw[h2,Dq];exact aOj h1⟩
theorem Nn.okA{f:PF}(h:Nn f):∃ars,yE ars∧f.comps.length=ars.length∧∀i c,f.comps[i]?=some c→∃ct ar,OkC f i c ct ar∧ct.ars=ars∧∃v∈c.vers,v.length=ar.length:=by
 obtain⟨ars,ho,hl,hg⟩:=h.comps;refine⟨ars,ho,hl,fun i c hc=>?_⟩;have g:=hg i c hc;obtain⟨ints,tables,ar,hi,ht,ha,hv,hvs,hvn,hx⟩:=g.vers;obtain⟨ar',ha',hn⟩:=g.hnames ho;have:ar'=ar:=by rw[ha]at ha';exact(aOj ha').symm
 subst this;refine⟨⟨ints,tables,f.flags.length,i,ars⟩,ar',⟨⟨hi,ht,h.flags.1,(aNr.1 ha).1,ho.1.2,ho.2⟩,rfl,ha,h.flags.2,hv,g.name,hvs,hn,fun to a x n h1 h2=>?_,fun to hto=>?_,fun to a h1=>?_⟩,rfl,hx⟩
 · have h7:to<ars.length:=(aNr.1 h1).1
   have h8:=ho.1.2;exact mZ ho h1 h2 f.comps 0 om om om fun j c hj=>by rw[aOz];exact hg j c hj
 · have hto:to<ars.length:=hto
   exact yK h om
 · have hlt:to<f.comps.length:=by rw[hl];exact(aNr.1 h1).1
   obtain⟨a2,hb,hn2⟩:=(hg to _ (gge hlt)).hnames ho;rw[aOf,gge hlt];rw[h1]at hb;rw[aOj hb];exact aOa some hn2
theorem tyF{F:Fl}(h:Nn F.pure):TyF F:=by
 obtain⟨ars,ho,hl,hA⟩:=h.okA;have hcl:F.comps.length=ars.length:=by have h1:(F.comps.map Cm.pure).length=ars.length:=hl;rwa[aNv]at h1
 have hpi:∀(i:Nat) (c:Cm),F.comps[i]?=some c→F.pure.comps[i]?=some c.pure:=fun i c hc=>by
  show(F.comps.map Cm.pure)[i]?=_;rw[aOf,hc];rfl
 have hnc:∀(i:Nat) (c:Cm),F.comps[i]?=some c→c.name=nC i:=fun i c hc=>by
  obtain⟨_,_,ok,_⟩:=hA i _ (hpi i c hc);exact ok.name
 have h3:=ho.1.2;have hdc:Dis Cm.name F.comps:=Dis.of fun i j x y hij hx hy e=>by
  have hj:=(aNr.1 hy).1;rw[hnc i x hx,hnc j y hy]at e;have:=mY om om e;omega
 have hfl:F.flags.map Fg.name=nms 102 F.flags.length:=h.flags.2;have hf2:F.flags.length≤2:=h.flags.1;have hdf:Dis Fg.name F.flags:=Dis.nms de om hfl;have hto:∀i,i<F.comps.length→∃c,F.comps[i]?=some c∧fdC F.comps (nC i)=some c:=fun i hi=>by
  have hc:=gge hi;refine⟨_,hc,?_⟩;rw[←hnc i _ hc];exact hdc.fs hc
 refine⟨fun k z hz=>hdf.ix hz,fun z hz=>?_,fun k z hz y hy e=>?_,fun i x hx=>?_⟩
 · obtain⟨i,j,hi,hj,e1,e2,_⟩:=h.links.2.1 z hz
   have hp:F.pure.comps.length=F.comps.length:=aNv ..;obtain⟨c,_,hc⟩:=hto i om;obtain⟨d,_,hd⟩:=hto j om;rw[e1,e2];exact⟨⟨c,hc⟩,d,hd⟩
 · obtain⟨i,hi⟩:=aPr hy
   have hik:i<k:=by have:=(aNr.1 hi).1;rw[aOh]at this;omega
   rw[aQq hik]at hi;have hnd:(F.links.map fun x=>(x.src,x.dst)).Nodup:=h.links.2.2;obtain⟨hi1,hi2⟩:=aNr.1 hi;obtain⟨hk1,hk2⟩:=aNr.1 hz;have:=List.pairwise_iff_getElem.1 hnd i k (by rw[aNv];exact hi1) (by rw[aNv];exact hk1) hik;rw[List.getElem_map,List.getElem_map,hi2,hk2,e.1,e.2]at this;exact this rfl
 · obtain⟨ct,ar,ok,hars,hfull⟩:=hA i _ (hpi i x hx)
   have hil:i<F.comps.length:=(aNr.1 hx).1;have hcv:x.vars=varsOf ct.ints ct.tables:=ok.vars;have hci:=ok.ok.ints;have hct:=ok.ok.tables;have hcf:=ok.ok.flags;have hcfl:F.flags.map Fg.name=nms 102 ct.flags:=ok.flags;have hdv:Dis Vr.name x.vars:=Dis.of (JQ (by rw[hcv];exact UY _ om _ om));have har:=ok.ok.each ar (sN ok.arr);refine⟨hdc.fd hx,?_,fun k v hv=>⟨hdv.fd hv,?_⟩,fun n v hv k y hy=>?_⟩
   ·rw[hcfl,hnc i x hx];exact Kt (aBq i om _ om)
   · rw[hcfl]
     refine Kt ?_;have:=aPt.1 (aBp ct.ints om ct.tables om ct.flags om) v (by rw[←hcv];exact sN hv);simpa using this
   · have gv:=ok.vers v.pure (aOm.2 ⟨v,sN hv,rfl⟩)
     have gn:∀j z,v.l[j]?=some z→Zk ct ar j z.pure:=fun j z hz=>gv.2.2 j z.pure (by show(v.l.map Hd.pure)[j]?=_;rw[aOf,hz];rfl);have hpl:v.pure.length=v.l.length:=aNv ..;have gl:=gv.2.1;have hdh:Dis Hd.name v.l:=Dis.of fun i j x y hij hx hy e=>by
      have hj:=(aNr.1 hy).1;have e1:x.name=nm 104 i:=(gn i x hx).name;have e2:y.name=nm 104 j:=(gn j y hy).name;rw[e1,e2]at e;have:=(Pq de de om om e).2;omega
     have hyl:=(aNr.1 hy).1;obtain⟨np,hnp,hps,hst⟩:=(gn k y hy).ps;have hps:y.ps=nms 112 np:=hps;have hnp2:np≤2:=har.2.2 np (sN hnp);have hyn:y.name=nm 104 k:=(gn k y hy).name;refine⟨hdh.fd hy,fun h' hf=>?_,fun j p hp=>?_,Pv fun s hs=>?_⟩
     · obtain⟨j,mp,e,hj,h1,h2⟩:=zA ok (fun v hv=>aPv hv) hf
       rw[hyn]at e;have e2:=(Pq de de om om e).2;subst e2;rw[hnp]at h1;rw[h2,hps,aOj h1]
     · have hjl:=(aNr.1 hp).1
       have hdp:Dis (fun s:yB=>s) y.ps:=Dis.nms (c:=112) (n:=np) de om (by rw[List.map_id'];exact hps);have hix:=hdp.ix hp;rw[List.map_id']at hix;have hjn:j<np:=by rw[hps,Dq]at hjl;exact hjl
       have hpe:p=nm 112 j:=by
        rw[hps,Dw hjn]at hp;exact(aOj hp).symm
       refine⟨?_,?_,hix⟩
       ·rw[hcv,hpe];exact Option.isNone_iff_eq_none.1 (aGv _ om _ om j om)
       ·rw[hcfl,hpe];exact Kt (Rb de de om om de)
     · refine StE.ty (ct:=ct) (np:=np) ⟨ok.ok,hnp2,hcfl,hcv,hps,fun to a q m h1 h2=>?_,fun a q m h1 h2=>?_⟩ (hst s hs)
       · rw[hars]at h1
         obtain⟨c,hc,hfc⟩:=hto to (by rw[hcl];exact(aNr.1 h1).1);obtain⟨ct2,ar2,ok2,hars2,hfull2⟩:=hA to _ (hpi to c hc);have h4:=ok2.arr;rw[hars2,h1]at h4;obtain rfl:=aOj h4;obtain⟨h',h5,h6⟩:=UZ ok2 hfull2 h2;exact⟨c,h',hfc,h5,h6⟩
       · rw[ok.own,ok.arr]at h1
         obtain rfl:=aOj h1;exact UZ ok hfull h2
theorem VA{P:pG}{f:FuncId}{args:List vU}{Γ Γ':List Ad}{R:vU→List Ad→Prop}(h:∀(C:Cx) (ρ:Bj) (K:Act→wD→Prop),To C ρ Γ' K→To C ρ Γ K)(k:Bd P f args Γ' R):Bd P f args Γ R:=fun w hs=>by
 have h1:Db Γ Γ' w w:=h ⟨0,Γ,w,[]⟩ [] (fun _ w'=>w'=w→Db Γ Γ' w w) (fun _ w' _ hp e=>by subst e;exact hp) _ w (Yd [] 0 rfl) (Db.refl hs) rfl;exact(k w h1.sat).mono fun e w' ⟨v,Γ2,h2,h3,h4⟩=>⟨v,Γ2,h2,h3,h1.trans h4⟩
theorem zB(bc:Nat)(F:Fl)(hF:Mq F)(hCap:F.Cap)(i:Nat)(x:Cm)(hx:F.comps[i]?=some x)(hcg:x.Good)(n:Nat)(v:Vs)(hv:x.vers[n]?=some v)(m:Nat)(h:Hd)(hh:v.l[m]?=some h)(hg:h.Good)(hT:TyH F x h)(hσ:Scp.Low ⟨F.Af,F.qf,F.flags,x.Av,x.qv,x.vars,h.Ap,h.qp,h.ps⟩)(hqp:h.ps.length≤h.qp)(w ver:yB)(hver:ver.size≤30):
    Dz 131 [pv bc, .agg (Gu x).toArray, .agg (Iu h).toArray, .string ver] [box bc (cF F [.string w, .string nE, .string nE,iv 0]) 192,all (F.kids eX),ax] (fun v Γ'=>∃w':yB,v= .tuple #[]∧Γ'=[box bc (cF F [.string w', .string nE, .string nE,iv 0]) 192]):=by
 have hps:=hg.ps;have hsl:h.ps.length≤2:=hσ.p;have hsv:x.vars.length≤5:=hσ.v;have hsf:F.flags.length≤2:=hσ.f;have hs1:=Gd hcg.nm;have hs2:=Gd hg.nm;have hz1:(fT [115,116,97,116,101,109,101,110,116,32]).size=10:=rfl;have hz2:(fT [46]).size=1:=rfl;have hz3:(fT [32]).size=1:=rfl;refine Ba func131 ntmps131 fun w0=>?_;refine Js (cz (Jbo fun b5=>?_));refine Jbo fun b6=>?_;refine Jz 4 ?_;refine bv 3 rfl (ros He x.Av x.vars) rfl (Dh hx _ Nc) (bv 4 rfl (ros Gb F.Af F.flags) rfl (Mj (k:=eX)) (bv 5 rfl (ros Da h.Ap h.ps) rfl (Dh hx _ (Gw hv _ (Px hh _ Yr))) (Jz 8 ?_)));refine Bw (fun s g mz ρ Γ=>∃(k:Nat),ρ=[s 0,s 3,s 5,s 6,s 14,s 15,(16,nv k)]∧Γ=[g 5,g 4,g 3,g 6,ax,g 2,g 1,g 0]∧mz=h.ps.length-k∧(k≤h.ps.length)) ⟨⟨0,rfl,rfl,rfl,om⟩,sb⟩ ?_;rintro mz _ _ ⟨k,rfl,rfl,rfl,hk⟩;refine Jz 6 ?_;refine aa rfl ?_ ?_<;>intro k17;obtain⟨p,hp⟩:=ai h.ps k om;obtain⟨hp1,hp2,hp3⟩:=hT.ps k p hp;have htl:(h.ps.take k).length=k:=by rw[aOh];omega
 have hct:=Te h.Ap h.qp (h.ps.take k) p none om hp3
 (try unfold vs at hct);rw[htl]at hct
 refine Jz 18 ?_;refine Jvf (jI x.Av x.qv x.vars p none om hp1) rfl (jS (lS 5 rfl) (jP _)) ?_;refine Jz 3 ?_;refine ae fun b10=>?_;refine Jz 4 ?_;refine To.take k 8 rfl (Jz 11 ?_);refine Jvf (Uc F.Af F.qf F.flags p none om hp2) rfl (jS (lS 8 rfl) (jP _)) ?_;refine Jz 6 ?_;refine Jr (Gi (hi:=k) rfl s54 rfl rfl om) ?_;refine Jm ?_;refine Jvf (hct) rfl (jS (lS 0 rfl) (jP _)) ?_;refine Jz 3 ?_;refine af [2] (Hf bc F w p 5) ?_;rintro _ _ ⟨rfl,rfl⟩;refine Jz 8 ?_;refine Bp ⟨⟨k+1,rfl,rfl,rfl,om⟩,sb⟩;refine Jz 6 ?_;refine Jfw [] [0,2,3,4,5,7,9,101,106,108,110,11,12,213,14014] (jP _) ?_;refine Jz 11 ?_;refine df rfl (.bd [vs F.Af F.flags F.qf,vs x.Av x.vars x.qv,vs h.Ap h.ps h.qp]) ?_;refine df rfl (.bd [pv bc,vs F.Af F.flags F.qf,vs x.Av x.vars x.qv,vs h.Ap h.ps h.qp, .string x.name,vs x.Av x.vars x.qv,vs x.An x.vers x.qn, .string bE,iv 0]) ?_;refine Fw.mk rfl rfl rfl rfl rfl (Mk.box rfl rfl rfl) ?_;rintro _ _ ⟨b66,rfl,rfl⟩;refine Jz 8 ?_;refine Jr (Dj (a:=(fT [115,116,97,116,101,109,101,110,116,32])) (b:=x.name) rfl rfl rfl (by first|omega|(simp only[aNq];omega))) ?_;refine Jr (Dj (a:=((fT [115,116,97,116,101,109,101,110,116,32])++x.name)) (b:=(fT [46])) rfl rfl rfl (by first|omega|(simp only[aNq];omega))) ?_;refine Jz 2 ?_;refine Jr (Dj (a:=(((fT [115,116,97,116,101,109,101,110,116,32])++x.name)++(fT [46]))) (b:=h.name) rfl rfl rfl (by first|omega|(simp only[aNq];omega))) ?_;refine Jm ?_;refine Jr (Dj (a:=((((fT [115,116,97,116,101,109,101,110,116,32])++x.name)++(fT [46]))++h.name)) (b:=ver) rfl rfl rfl (by first|omega|(simp only[aNq];omega))) ?_;refine Jr (Dj (a:=(((((fT [115,116,97,116,101,109,101,110,116,32])++x.name)++(fT [46]))++h.name)++ver)) (b:=(fT [32])) rfl rfl rfl (by first|omega|(simp only[aNq];omega))) ?_;refine Jz 5 ?_;refine Bv 4 rfl (lsG Bc Bl h.Ab h.body) (Co _ _ _ _) (fun z hz=>Dh hx _ (Gw hv _ (Px hh _ (Nf (k:=eX) z hz)))) (Jz 4 ?_);refine af [1,1,0,5,4,4,2,2] (nP b66 bc F x ⟨F.Af,F.qf,F.flags,x.Av,x.qv,x.vars,h.Ap,h.qp,h.ps⟩ hσ ((((((fT [115,116,97,116,101,109,101,110,116,32])++x.name)++(fT [46]))++h.name)++ver)++(fT [32])) (by simp only[aNq];omega) hF i hx h.body h.Ab h.qb 0 w hg.len hg.low hT.body (by have:=hg.cnt;omega)) ?_;rintro _ _ ⟨w2,rfl,rfl⟩;refine Jn (Cr (Cb (Cg (Dr (.inr rfl) results131 ?_))));exact⟨_,rfl,rfl⟩
theorem VB(bc:Nat)(F:Fl)(hF:Mq F)(hCap:F.Cap)(hT:TyF F)(w:yB):
    Dz 83 [pv bc] [box bc (cF F [.string w, .string nE, .string nE,iv 0]) 192,all (F.kids eX)] (fun v Γ'=>∃w':yB,v= .tuple #[]∧Γ'=[box bc (cF F [.string w', .string nE, .string nE,iv 0]) 192]):=by
 have hF2:=hF.flags;have hcp:=hCap.1.1;have hz1:(fT [102,108,97,103,32]).size=5:=rfl;refine Ba func83 ntmps83 fun w0=>?_;refine Js (bv 1 rfl (ros Gb F.Af F.flags) rfl (Mj (k:=eX)) (Jz 11 ?_));refine Bw (fun s g mz ρ Γ=>∃(ww:yB) (k:Nat),ρ=[s 0,s 8,s 9,(10,nv k)]∧Γ=[box bc (cF F [.string ww, .string nE, .string nE,iv 0]) 192,g 0]∧mz=F.flags.length-k∧(k≤F.flags.length)) ⟨⟨w,0,rfl,rfl,rfl,om⟩,sb⟩ ?_;rintro mz _ _ ⟨ww,k,rfl,rfl,rfl,hk⟩;refine Jz 6 ?_;refine aa rfl ?_ ?_<;>intro k11;obtain⟨z,hz⟩:=ai F.flags k om;have htl:(F.flags.take k).length=k:=by rw[aOh];omega
 have hs1:=Gd (hF.flag z (sN hz));have hff:=Uc F.Af F.qf (F.flags.take k) z.name none om (hT.fl k z hz)
 (try unfold vs at hff);rw[htl]at hff
 refine Jz 9 ?_;refine ae fun b3=>?_;refine Jz 10 ?_;refine Jr (Dj (a:=(fT [102,108,97,103,32])) (b:=z.name) rfl rfl rfl (by first|omega|(simp only[aNq];omega))) ?_;refine af [1] (rF bc F ww ((fT [102,108,97,103,32])++z.name)) ?_;rintro _ _ ⟨rfl,rfl⟩;refine Jz 6 ?_;refine To.take k 2 rfl (Jfw [] [0,1,2,3,4,6,8,12,105,7,109,310,11,113,514] (jP _) ?_);refine Jz 9 ?_;refine df rfl (Gi (hi:=k) rfl s70 rfl rfl om) ?_;refine Jz 1 ?_;refine Fw.qf (hff) (jS (lS 0 rfl) (jP _)) ?_;refine Jz 2 ?_;refine Dl [1] (Hf bc F ((fT [102,108,97,103,32])++z.name) z.name 5) ?_;rintro _ _ ⟨rfl,rfl⟩;refine⟨jP _,?_⟩;refine Jz 8 ?_;refine Bp ⟨⟨((fT [102,108,97,103,32])++z.name),k+1,rfl,rfl,rfl,om⟩,sb⟩;refine Jz 4 ?_;refine Ci (Dr (.inr rfl) results83 ?_);exact⟨_,rfl,rfl⟩
theorem aGw{z1 z2 y:yB}{j:Nat}(h:[z1,z2][j]?=some y):y=z1∨y=z2:=by
 have:=sN h;simpa using this
theorem VC(bc:Nat)(F:Fl)(hF:Mq F)(hCap:F.Cap)(hT:TyF F)(w:yB):
    Dz 84 [pv bc] [box bc (cF F [.string w, .string nE, .string nE,iv 0]) 192,all (F.kids eX)] (fun v Γ'=>∃w':yB,v= .tuple #[]∧Γ'=[box bc (cF F [.string w', .string nE, .string nE,iv 0]) 192]):=by
 have hF2:=hF.links;have hFc:=hF.comps;have hcp:=hCap.1.2.1;have hzz:∀a b:yB,[a,b].length=2:=fun _ _=>rfl;have hz1:(fT [108,105,110,107,32]).size=5:=rfl;have hz2:(fT [32]).size=1:=rfl;refine Ba func84 ntmps84 fun w0=>?_;refine Js (bv 1 rfl (ros Jj F.Al F.links) rfl (Ml (k:=eX)) (bv 2 rfl (ros Gu F.Ac F.comps) rfl (Gj (k:=eX)) (Jz 11 ?_)));refine Bw (fun s g mz ρ Γ=>∃(ww:yB) (k:Nat),ρ=[s 0,s 13,s 14,(15,nv k)]∧Γ=[box bc (cF F [.string ww, .string nE, .string nE,iv 0]) 192,g 1,g 0]∧mz=F.links.length-k∧(k≤F.links.length)) ⟨⟨w,0,rfl,rfl,rfl,om⟩,sb⟩ ?_;rintro mz _ _ ⟨ww,k,rfl,rfl,rfl,hk⟩;refine Jz 6 ?_;refine aa rfl ?_ ?_<;>intro k16;obtain⟨z,hz⟩:=ai F.links k om;have hzm:=sN hz;have htl:(F.links.take k).length=k:=by rw[aOh];omega
 have hs1:=Gd (hF.link z hzm).1;have hs2:=Gd (hF.link z hzm).2.1;obtain⟨⟨c1,hc1⟩,c2,hc2⟩:=hT.lk z hzm;refine Jz 9 ?_;refine ae fun b3=>?_;refine Jz 10 ?_;refine Jr (Dj (a:=(fT [108,105,110,107,32])) (b:=z.src) rfl rfl rfl (by first|omega|(simp only[aNq];omega))) ?_;refine Jr (Dj (a:=((fT [108,105,110,107,32])++z.src)) (b:=(fT [32])) rfl rfl rfl (by first|omega|(simp only[aNq];omega))) ?_;refine Jz 2 ?_;refine Jr (Dj (a:=(((fT [108,105,110,107,32])++z.src)++(fT [32]))) (b:=z.dst) rfl rfl rfl (by first|omega|(simp only[aNq];omega))) ?_;refine af [1] (rF bc F ww ((((fT [108,105,110,107,32])++z.src)++(fT [32]))++z.dst)) ?_;rintro _ _ ⟨rfl,rfl⟩;refine Jz 13 ?_;refine Ew [.string z.src, .string z.dst] fun b34=>?_;refine Jz 5 ?_;refine Dp (enc:=Da) (l:=[z.src,z.dst]) (Bw (fun s g mz ρ Γ=>∃(wj:yB) (j:Nat),ρ=[s 0,s 13,s 14,s 15,s 2,s 3,s 34,s 35,(36,nv j)]∧Γ=[box bc (cF F [.string wj, .string nE, .string nE,iv 0]) 192,g 3,g 4,g 2,g 0]∧mz=2-j∧(j≤2)) ⟨⟨_,0,rfl,rfl,rfl,om⟩,sb⟩ ?_);rintro mz _ _ ⟨wj,j,rfl,rfl,rfl,hj⟩;refine Jz 6 ?_;refine aa rfl ?_ ?_<;>intro k37;have hz2l:=hzz z.src z.dst;obtain⟨y,hy⟩:∃z0,[z.src,z.dst][j]?=some z0:=⟨[z.src,z.dst][j]'om,gge _⟩
 obtain⟨cy,hcy⟩:∃cy,fdC F.comps y=some cy:=by
  rcases aGw hy with e|e
  ·rw[e];exact⟨c1,hc1⟩
  ·rw[e];exact⟨c2,hc2⟩
 refine Jz 19 ?_;refine Jvf (nM F.Ac F.qc F.comps y cy om hcy) rfl (jS (lS 2 rfl) (jP _)) ?_;refine Jz 3 ?_;refine ae fun b6=>?_;refine Jz 8 ?_;refine af [1] (Hf bc F wj y 9) ?_;rintro _ _ ⟨rfl,rfl⟩;refine Jz 8 ?_;refine Bp ⟨⟨wj,j+1,rfl,rfl,rfl,om⟩,sb⟩;refine Jz 6 ?_;refine Fj (Sm (cz (Jr (Rd.makeFunc rfl rfl rfl) ?_)));refine Jz 3 ?_;have hcl:=vL b3 z F.Al F.ql (F.links.take k) om (hT.ln k z hz)
 (try unfold vs at hcl);rw[htl]at hcl
 refine To.take k 2 rfl (Jfw [] [0,1,2,3,4,6,8,11,105,7,309,10,112,513] (jP _) ?_);refine Jz 9 ?_;refine df rfl (Gi (hi:=k) rfl s71 rfl rfl om) ?_;refine Fw.qf (hcl) (jS (lS 0 rfl) (jS (lS 1 rfl) (jP _))) ?_;refine Jz 1 ?_;refine Ki rfl (Cq (i:=1) rfl rfl c9 rfl (Ev (A:=some ⟨b3,0,none⟩) (o:=0) (k:=1) rfl)) ?_;refine Dl [2] (Hf bc F wj z.src 5) ?_;rintro _ _ ⟨rfl,rfl⟩;refine⟨jP _,?_⟩;refine Jz 8 ?_;refine Bp ⟨⟨wj,k+1,rfl,rfl,rfl,om⟩,sb⟩;refine Jz 4 ?_;refine Cb (Ci (Dr (.inr rfl) results84 ?_));exact⟨_,rfl,rfl⟩
theorem OB{B:OA}(v:Vs)(k:Nat)(s:yB)(hk:k≤v.l.length)(h3:v.l.length≤3)(hn:(v.l.take k).find? (fun y:Hd=>decide (y.name=s))=none):
    Dz 130 [.slice B 1 1, .string s] [ro B [.slice v.A k v.q],all (v.kids eX)] (fun r Γ'=>r= .tuple #[.agg (Iu zH).toArray,bf]∧Γ'=[]):=by
 have hl:(v.l.take k).length=k:=by rw[aOh];omega
 have h0:fdH [⟨v.A,v.q,v.l.take k⟩] s=none:=by unfold fdH;rw[aPl,List.flatMap_nil,aOo];exact hn
 have hd:=nL B 1 [⟨v.A,v.q,v.l.take k⟩] s none (show 1≤12 by decide) (fun x hx=>by rw[aNz.1 hx];show(v.l.take k).length≤3;omega) h0;refine VA (fun C ρ K kk=>?_) hd;have e:ro B [.slice v.A k v.q]=ros Fb B [(⟨v.A,v.q,v.l.take k⟩:Vs)]:=by show _=ro B [.slice v.A (v.l.take k).length v.q];rw[hl]
 rw[e];refine bv 1 rfl (ros Iu v.A v.l) rfl (aNu ..) (To.take k 0 rfl (Bv 3 rfl ((v.l.take k).flatMap (Hd.kids eX)) (Gp fun h _=>h.lax eX) (fun c hc=>?_) ?_))
 · obtain⟨h,hh,hc⟩:=aOs.1 hc
   exact aNs _ (aOs.2 ⟨h,aPv hh,hc⟩)
 refine bz (aPd _ _ _) (Cw (Ig (To.drop (Γ:=[ros Fb B [(⟨v.A,v.q,v.l.take k⟩:Vs)],all _]) (Δ:=[_,_]) ?_)));have e2:[(⟨v.A,v.q,v.l.take k⟩:Vs)].flatMap (Vs.kids eX)=ros Iu v.A (v.l.take k)::(v.l.take k).flatMap (Hd.kids eX):=by rw[aPl,List.flatMap_nil,aOo];rfl
 rw[e2]at kk;exact kk
theorem aBr(bc:Nat)(F:Fl)(hF:Mq F)(hCap:F.Cap)(i:Nat)(x:Cm)(hx:F.comps[i]?=some x)(hcg:x.Good)(hT:TyC F i x)(w:yB):
    Dz 85 [pv bc,nv i] [box bc (cF F [.string w, .string nE, .string nE,iv 0]) 192,all (F.kids eX),ax] (fun v Γ'=>∃w':yB,v= .tuple #[]∧Γ'=[box bc (cF F [.string w', .string nE, .string nE,iv 0]) 192]):=by
 have hFc:=hF.comps;have hFf:=hF.flags;have hxv:=hcg.vars;have hxn:=hcg.vers2;have hil:i<F.comps.length:=(aNr.1 hx).1;have hs1:=Gd hcg.nm;have hcf:=hCap.1;have hCc:=hCap.2 x (sN hx);have hCq:=hCc.1;have hil2:∀n:Nat,n≤3→(Lib.itoa (((n+1:Nat):Nat):Int)).length≤20:=fun n hn=>itoa_len om om;have htl:(F.comps.take i).length=i:=by rw[aOh];omega
 have hfc:=yV F.Ac F.qc (F.comps.take i) x.name none om hT.new
 (try unfold vs at hfc);rw[htl]at hfc
 have hz1:(fT [99,111,109,112,111,110,101,110,116,32]).size=10:=rfl;have hz2:(fT [118,97,114,105,97,98,108,101,32]).size=9:=rfl;have hz3:(fT [104,97,110,100,108,101,114,32]).size=8:=rfl;have hz4:(fT [46]).size=1:=rfl;have hz5:(fT [32]).size=1:=rfl;refine Ba func85 ntmps85 fun w0=>?_;refine Js (bv 1 rfl (ros Gu F.Ac F.comps) rfl (Gj (k:=eX)) (Jz 9 ?_));refine ae fun b4=>?_;refine Jz 9 ?_;refine Jr (Dj (a:=(fT [99,111,109,112,111,110,101,110,116,32])) (b:=x.name) rfl rfl rfl (by first|omega|(simp only[aNq];omega))) ?_;refine af [2] (rF bc F w ((fT [99,111,109,112,111,110,101,110,116,32])++x.name)) ?_;rintro _ _ ⟨rfl,rfl⟩;refine Jz 7 ?_;refine bv 3 rfl (ros He x.Av x.vars) rfl (Dh hx _ Nc) (bv 4 rfl (ros Gb F.Af F.flags) rfl (Mj (k:=eX)) (bv 5 rfl (ros Fb x.An x.vers) rfl (Dh hx _ Ij) (To.take i 5 rfl (Jfw [] [0,1,2,3,5,7,104,6,108,309,10,11,12,213,14514,15] (jP _) ?_))));refine Jz 7 ?_;refine df rfl (Gi (hi:=i) rfl s72 rfl rfl om) ?_;refine Jz 1 ?_;refine Fw.qf (hfc) (jS (lS 0 rfl) (jP _)) ?_;refine Jz 3 ?_;refine Fw.mk rfl rfl rfl rfl rfl (Mk.alloc rfl aJc) ?_;rintro _ _ ⟨b5,rfl,rfl⟩;refine dh rfl rfl rfl (Cf (i:=0) rfl rfl rfl MQ rfl rfl rfl (bta rfl)) (jP _) ?_;refine Jz 4 ?_;refine Jfw [] [0,1,2,3,4,5,6,7,9,14,108,110,311,12,13,115,516] (jP _) ?_;refine Jz 12 ?_;refine Fw.qf (Uc F.Af F.qf F.flags x.name none om hT.nfl) (jS (lS 3 rfl) (jP _)) ?_;refine Jz 3 ?_;refine Dl [5] (Hf bc F ((fT [99,111,109,112,111,110,101,110,116,32])++x.name) x.name 5) ?_;rintro _ _ ⟨rfl,rfl⟩;refine⟨jP _,?_⟩;refine Jz 12 ?_;refine Bw (fun s g mz ρ Γ=>∃(w1:yB) (k:Nat),ρ=[s 0,s 4,s 63,s 64,(65,nv k)]∧Γ=[box bc (cF F [.string w1, .string nE, .string nE,iv 0]) 192,g 6,g 8,ax,g 5,g 4,g 3,g 7]∧mz=x.vars.length-k∧(k≤x.vars.length)) ⟨⟨_,0,rfl,rfl,rfl,om⟩,sb⟩ ?_;rintro mz _ _ ⟨w1,k,rfl,rfl,rfl,hk⟩;refine Jz 6 ?_;refine aa rfl ?_ ?_<;>intro k66;obtain⟨y,hy⟩:=ai x.vars k om;have htl2:(x.vars.take k).length=k:=by rw[aOh];omega
 have hs2:=Gd (hcg.var y (sN hy)).1;have hfv:=jI x.Av x.qv (x.vars.take k) y.name none om (hT.var k y hy).1
 (try unfold vs at hfv);rw[htl2]at hfv
 refine Jz 9 ?_;refine ae fun b8=>?_;refine Jz 10 ?_;refine Jr (Dj (a:=(fT [118,97,114,105,97,98,108,101,32])) (b:=x.name) rfl rfl rfl (by first|omega|(simp only[aNq];omega))) ?_;refine Jr (Dj (a:=((fT [118,97,114,105,97,98,108,101,32])++x.name)) (b:=(fT [46])) rfl rfl rfl (by first|omega|(simp only[aNq];omega))) ?_;refine Jz 2 ?_;refine Jr (Dj (a:=(((fT [118,97,114,105,97,98,108,101,32])++x.name)++(fT [46]))) (b:=y.name) rfl rfl rfl (by first|omega|(simp only[aNq];omega))) ?_;refine af [1] (rF bc F w1 ((((fT [118,97,114,105,97,98,108,101,32])++x.name)++(fT [46]))++y.name)) ?_;rintro _ _ ⟨rfl,rfl⟩;refine Jz 7 ?_;refine To.take k 5 rfl (Jfw [] [0,2,4,101,3,105,306,7,8,9,210,11511,12] (jP _) ?_);refine Jz 4 ?_;refine df rfl (Gi (hi:=k) rfl s88 rfl rfl om) ?_;refine Jz 1 ?_;refine Fw.qf (hfv) (jS (lS 0 rfl) (jP _)) ?_;refine Jz 3 ?_;refine Fw.mk rfl rfl rfl rfl rfl (Mk.alloc rfl z92) ?_;rintro _ _ ⟨b9,rfl,rfl⟩;refine dh rfl rfl rfl (Cf (i:=0) rfl rfl rfl r92 rfl rfl rfl (bta rfl)) (jP _) ?_;refine Jz 3 ?_;refine Jfw [] [0,1,2,3,4,5,6,7,9,14,108,110,311,12,13,115,516] (jP _) ?_;refine Jz 12 ?_;refine Fw.qf (Uc F.Af F.qf F.flags y.name none om (hT.var k y hy).2) (jS (lS 8 rfl) (jP _)) ?_;refine Jz 3 ?_;refine Dl [2] (Hf bc F ((((fT [118,97,114,105,97,98,108,101,32])++x.name)++(fT [46]))++y.name) y.name 5) ?_;rintro _ _ ⟨rfl,rfl⟩;refine⟨jP _,?_⟩;refine Jz 8 ?_;refine Bp ⟨⟨((((fT [118,97,114,105,97,98,108,101,32])++x.name)++(fT [46]))++y.name),k+1,rfl,rfl,rfl,om⟩,sb⟩;refine Jz 14 ?_;refine Il (fun s g mz ρ Γ=>∃(w2:yB) (n:Nat),ρ=[s 0,s 4,s 109,s 110,(111,nv n)]∧Γ=[box bc (cF F [.string w2, .string nE, .string nE,iv 0]) 192,g 1,g 2,ax,g 4,g 5,g 6,g 7]∧mz=x.vers.length-n∧(n≤x.vers.length)) ⟨⟨_,0,rfl,rfl,rfl,om⟩,sb⟩ ?_;rintro mz _ _ ⟨w2,n,rfl,rfl,rfl,hn⟩;refine Jz 6 ?_;refine aa rfl ?_ ?_<;>intro k112;obtain⟨v,hv⟩:=ai x.vers n om;have hvm:=sN hv;have hvg:=hcg.ver v hvm;have hvl:=hvg.1;have hcn:=hCc.2 v hvm;have hvq:=hcn.1;refine Jz 9 ?_;refine ae fun b12=>?_;refine Jz 5 ?_;refine bv 3 rfl (ros Iu v.A v.l) rfl (Dh hx _ (Gw hv _ Qs)) (Jz 8 ?_);refine Bw (fun s g mz ρ Γ=>∃(w3:yB) (m:Nat),ρ=[s 0,s 4,s 109,s 110,s 111,s 11,s 12,s 117,s 118,(119,nv m)]∧Γ=[box bc (cF F [.string w3, .string nE, .string nE,iv 0]) 192,g 3,g 4,ax,g 6,g 7,g 8,g 9,g 0,g 1]∧mz=v.l.length-m∧(m≤v.l.length)) ⟨⟨_,0,rfl,rfl,rfl,om⟩,sb⟩ ?_;rintro mz _ _ ⟨w3,m,rfl,rfl,rfl,hm⟩;refine Jz 6 ?_;refine aa rfl ?_ ?_<;>intro k120;obtain⟨h,hh⟩:=ai v.l m om;have hhm:=sN hh;have hg:=hvg.2 h hhm;have hs3:=Gd hg.nm;obtain⟨hd1,hd2,hd3⟩:=hT.hd n v hv m h hh;have hhq:=hcn.2 h hhm;have hit:(BA (Lib.itoa (((n+1:Nat):Nat):Int))).size≤20:=by rw[BA_size];exact hil2 n om
 refine Jz 9 ?_;refine ae fun b14=>?_;refine Jz 6 ?_;refine Jfw [] [0,1,5,9,10,311,102,3,4,106,7,8,12,513,14] (jP _) ?_;refine Jz 5 ?_;refine Fw.qf (itoa_fn (((n+1:Nat):Nat):Int) om om) (jS (lS 4 rfl) (jP _)) ?_;refine Jz 1 ?_;refine df rfl (Dj (a:=(fT [104,97,110,100,108,101,114,32])) (b:=x.name) rfl rfl rfl (by first|omega|(simp only[aNq];omega))) ?_;refine df rfl (Dj (a:=((fT [104,97,110,100,108,101,114,32])++x.name)) (b:=(fT [46])) rfl rfl rfl (by first|omega|(simp only[aNq];omega))) ?_;refine Jz 1 ?_;refine df rfl (Dj (a:=(((fT [104,97,110,100,108,101,114,32])++x.name)++(fT [46]))) (b:=h.name) rfl rfl rfl (by first|omega|(simp only[aNq];omega))) ?_;refine df rfl (Dj (a:=((((fT [104,97,110,100,108,101,114,32])++x.name)++(fT [46]))++h.name)) (b:=(fT [32])) rfl rfl rfl (by first|omega|(simp only[aNq];omega))) ?_;refine df rfl (Dj (a:=(((((fT [104,97,110,100,108,101,114,32])++x.name)++(fT [46]))++h.name)++(fT [32]))) (b:=(BA (Lib.itoa (((n+1:Nat):Nat):Int)))) rfl rfl rfl (by first|omega|(simp only[aNq];omega))) ?_;refine Dl [1] (rF bc F w3 ((((((fT [104,97,110,100,108,101,114,32])++x.name)++(fT [46]))++h.name)++(fT [32]))++(BA (Lib.itoa (((n+1:Nat):Nat):Int))))) ?_;rintro _ _ ⟨rfl,rfl⟩;refine⟨jP _,?_⟩;refine Jz 7 ?_;refine Bv 3 rfl (v.kids eX) (Vs.lax eX v) (fun z hz=>Dh hx _ (Gw hv _ hz)) (Oy [] [⟨0,[],0⟩,⟨2,[],0⟩,⟨6,[],0⟩,⟨1,[],1⟩,⟨3,[],0⟩,⟨4,[],0⟩,⟨5,[],2⟩,⟨7,[],1⟩,⟨8,[5],4⟩,⟨9,[5,8],0⟩,⟨10,[5,8],0⟩,⟨11,[5,8],0⟩,⟨12,[],2⟩,⟨13,[5,8,12],5⟩,⟨14,[],0⟩] mixed.h kr (jP _) (Jz 4 ?_));refine df rfl (Gi (hi:=m) rfl ZP rfl rfl om) ?_;refine df rfl (.bd [.slice v.A m v.q]) ?_;refine En [.slice v.A m v.q] fun b145=>?_;refine Jz 1 ?_;refine Dx rfl rfl rfl rfl rfl .fc (OB v m h.name om hvl hd1) (by show owns (v.kids eX)++[]=[];rw[(v.lax eX).owns];rfl) (jS (Oq 0 rfl) (jS (lS 1 rfl) (jP _))) ?_;rintro _ _ ⟨rfl,rfl⟩;refine⟨rfl,?_⟩;refine Jz 3 ?_;refine Fw.mk rfl rfl rfl rfl rfl (Mk.alloc rfl aJg) ?_;rintro _ _ ⟨b15,rfl,rfl⟩;refine dh rfl rfl rfl (Cf (i:=0) rfl rfl rfl MR rfl rfl rfl (bta rfl)) (jP _) ?_;refine Jz 10 ?_;refine af [3] (Hf bc F ((((((fT [104,97,110,100,108,101,114,32])++x.name)++(fT [46]))++h.name)++(fT [32]))++(BA (Lib.itoa (((n+1:Nat):Nat):Int)))) h.name 5) ?_;rintro _ _ ⟨rfl,rfl⟩;refine Jz 3 ?_;have htl3:(x.vers.take n).length=n:=by rw[aOh];omega
 obtain⟨o,ho⟩:∃o,fdH (x.vers.take n) h.name=o:=⟨_,rfl⟩
 have hso:o.isSome=true→(o.getD zH).ps.length=h.ps.length:=fun e=>by
  obtain⟨h',rfl⟩:=aQi.1 e;exact hd2 h' ho
 have hcl:=nL x.An x.qn (x.vers.take n) h.name o om (fun y hy=>(hcg.ver y (aPv hy)).1) ho
 (try unfold vs at hcl);rw[htl3]at hcl
 refine To.take n 10 rfl ?_;refine Bv 7 rfl ((x.vers.take n).flatMap (Vs.kids eX)) (Gp fun h _=>Vs.lax eX h) (fun z hz=>by
     obtain⟨y,hy,hz⟩:=aOs.1 hz;obtain⟨j,hj⟩:=aPr (aPv hy);exact Dh hx _ (Gw hj _ hz)) ?_
 refine Oy [] [⟨0,[],0⟩,⟨2,[],0⟩,⟨4,[],0⟩,⟨1,[],1⟩,⟨3,[],0⟩,⟨5,[],1⟩,⟨6,[],4⟩,⟨7,[6],0⟩,⟨8,[6],0⟩,⟨9,[6],0⟩,⟨10,[],2⟩,⟨11,[6,10],5⟩,⟨12,[],0⟩] mixed.h kr (jP _) (Jz 4 ?_);refine df rfl (Gi (hi:=n) rfl ZO rfl rfl om) ?_;refine Jz 1 ?_;refine Dx rfl rfl rfl rfl rfl .fc (hcl) (by show owns ((x.vers.take n).flatMap (Vs.kids eX))++[]=[];rw[(Gp (k:=Vs.kids eX) (l:=x.vers.take n) fun h _=>Vs.lax eX h).owns];rfl) (jS (lS 1 rfl) (jS (lS 0 rfl) (jP _))) ?_;rintro _ _ ⟨rfl,rfl⟩;refine⟨rfl,?_⟩;refine Jz 3 ?_;refine Fw.mk rfl rfl rfl rfl rfl (Mk.alloc rfl aJg) ?_;rintro _ _ ⟨b17,rfl,rfl⟩;refine dh rfl rfl rfl (Cf (i:=0) rfl rfl rfl MR rfl rfl rfl (bta rfl)) (jP _) ?_;refine Jz 8 ?_;refine JgB ?_ ?_<;>intro g170;refine Jz 10 ?_;refine af [3] (Hf bc F ((((((fT [104,97,110,100,108,101,114,32])++x.name)++(fT [46]))++h.name)++(fT [32]))++(BA (Lib.itoa (((n+1:Nat):Nat):Int)))) h.name 10) ?_;rintro _ _ ⟨rfl,rfl⟩;refine Jn (Ju [(0,pv bc),(4,pv b4),(109,vs x.An x.vers x.qn),(110,nv x.vers.length),(111,nv n),(11,nv n),(12,pv b12),(117,vs v.A v.l v.q),(118,nv v.l.length),(119,nv m),(120, .bool (decide (((m:Nat):Int)<((v.l.length:Nat):Int)))),(14,pv b14),(13,nv m),(138,bf),(16, .bool o.isSome),(17,pv b17)] sb (Jt (Qb 10 rfl rfl (Bv 10 rfl (F.kids eX) (Fl.lax eX F) (fun c hc=>hc) (Jfw [] [0,3,4,305,6,101,102,507] (jP _) ?_)))));refine Jz 3 ?_;refine Fw.qf (itoa_fn (((n+1:Nat):Nat):Int) om om) (jS (lS 1 rfl) (jP _)) ?_;refine df rfl (Dj (a:=(fT [32])) (b:=(BA (Lib.itoa (((n+1:Nat):Nat):Int)))) rfl rfl rfl (by first|omega|(simp only[aNq];omega))) ?_;refine Jz 2 ?_;refine Dl [2,0,0] (zB bc F hF hCap i x hx hcg n v hv m h hh hg hd3 ⟨hF.flags,hcg.vars,hg.ps⟩ hhq ((((((fT [104,97,110,100,108,101,114,32])++x.name)++(fT [46]))++h.name)++(fT [32]))++(BA (Lib.itoa (((n+1:Nat):Nat):Int)))) ((fT [32])++(BA (Lib.itoa (((n+1:Nat):Nat):Int)))) (by simp only[aNq];omega)) ?_;rintro _ _ ⟨w2,rfl,rfl⟩;refine⟨jP _,?_⟩;refine Jz 8 ?_;refine Bp ⟨⟨w2,m+1,rfl,rfl,rfl,om⟩,sb⟩;refine Jz 6 ?_;refine Jr (Cs (v':=bt) (aOa Value.bool (aOv (by have:=hso (by simpa using g170);omega))) (Rd.eql rfl rfl rfl)) ?_;refine Jz 3 ?_;refine af [3] (Hf bc F ((((((fT [104,97,110,100,108,101,114,32])++x.name)++(fT [46]))++h.name)++(fT [32]))++(BA (Lib.itoa (((n+1:Nat):Nat):Int)))) h.name 10) ?_;rintro _ _ ⟨rfl,rfl⟩;refine Jn (Ju [(0,pv bc),(4,pv b4),(109,vs x.An x.vers x.qn),(110,nv x.vers.length),(111,nv n),(11,nv n),(12,pv b12),(117,vs v.A v.l v.q),(118,nv v.l.length),(119,nv m),(120, .bool (decide (((m:Nat):Int)<((v.l.length:Nat):Int)))),(14,pv b14),(13,nv m),(138,bf),(16, .bool o.isSome),(17,pv b17)] sb (Jt (Qb 10 rfl rfl (Bv 10 rfl (F.kids eX) (Fl.lax eX F) (fun c hc=>hc) (Jfw [] [0,3,4,305,6,101,102,507] (jP _) ?_)))));refine Jz 3 ?_;refine Fw.qf (itoa_fn (((n+1:Nat):Nat):Int) om om) (jS (lS 1 rfl) (jP _)) ?_;refine df rfl (Dj (a:=(fT [32])) (b:=(BA (Lib.itoa (((n+1:Nat):Nat):Int)))) rfl rfl rfl (by first|omega|(simp only[aNq];omega))) ?_;refine Jz 2 ?_;refine Dl [2,0,0] (zB bc F hF hCap i x hx hcg n v hv m h hh hg hd3 ⟨hF.flags,hcg.vars,hg.ps⟩ hhq ((((((fT [104,97,110,100,108,101,114,32])++x.name)++(fT [46]))++h.name)++(fT [32]))++(BA (Lib.itoa (((n+1:Nat):Nat):Int)))) ((fT [32])++(BA (Lib.itoa (((n+1:Nat):Nat):Int)))) (by simp only[aNq];omega)) ?_;rintro _ _ ⟨w2,rfl,rfl⟩;refine⟨jP _,?_⟩;refine Jz 8 ?_;refine Bp ⟨⟨w2,m+1,rfl,rfl,rfl,om⟩,sb⟩;refine Jz 11 ?_;refine Bp ⟨⟨w3,n+1,rfl,rfl,rfl,om⟩,sb⟩;refine Jz 4 ?_;refine Wu (Jq (Gl (Df (Cr (Cb (Ci (Dr (.inr rfl) results85 ?_)))))));exact⟨_,rfl,rfl⟩
theorem OC(F:Fl)(hF:Mq F)(hCap:F.Cap)(hT:TyF F):
    Dz 48 [.agg (cF F []).toArray] [all (F.kids eX),ay,ax] (fun v Γ'=>v= .tuple #[.agg #[.string nE, .string nE,iv 0],iv 0]∧Γ'=[]):=by
 have hFc:=hF.comps;refine Ba func48 ntmps48 fun w0=>?_;refine Js (cz (Jbo fun b1=>?_));refine ae fun b2=>?_;refine Jz 6 ?_;refine Jr (.bd (cF F [.string (fT [102,108,101,101,116]), .string bE, .string bE,iv 0])) ?_;refine Jbo fun b8=>?_;refine Jz 4 ?_;refine Jfw [] [0,3,101,402,104,3505] (jP _) ?_;refine Jz 3 ?_;refine Dx rfl rfl rfl rfl rfl .fc (fJ F hF) (by show owns (F.kids eX)++(owns gl++[])=[];rw[(Fl.lax eX F).owns];rfl) (jS (lS 3 rfl) (jS (lS 4 rfl) (jP _))) ?_;rintro _ _ ⟨rfl,rfl⟩;refine⟨rfl,?_⟩;refine Jz 1 ?_;refine Dl [0] (fK b8 F (fT [102,108,101,101,116]) F.name) ?_;rintro _ _ ⟨rfl,rfl⟩;refine⟨jP _,?_⟩;refine Jz 3 ?_;refine Bv 3 rfl (F.kids eX) (Fl.lax eX F) (fun c hc=>hc) (Jz 2 ?_);refine af [1,0] (VB b8 F hF hCap hT (fT [102,108,101,101,116])) ?_;rintro _ _ ⟨w2,rfl,rfl⟩;refine Jz 3 ?_;refine Bv 3 rfl (F.kids eX) (Fl.lax eX F) (fun c hc=>hc) (Jz 2 ?_);refine af [1,0] (VC b8 F hF hCap hT w2) ?_;rintro _ _ ⟨w2_2,rfl,rfl⟩;refine Jz 12 ?_;refine Bw (fun s g mz ρ Γ=>∃(ww:yB) (k:Nat),ρ=[s 2,s 3,s 4,s 21,(22,nv k)]∧Γ=[box b8 (cF F [.string ww, .string nE, .string nE,iv 0]) 192,g 3,ax,g 1]∧mz=F.comps.length-k∧(k≤F.comps.length)) ⟨⟨_,0,rfl,rfl,rfl,om⟩,sb⟩ ?_;rintro mz _ _ ⟨ww,k,rfl,rfl,rfl,hk⟩;refine Jz 6 ?_;refine aa rfl ?_ ?_<;>intro k23;obtain⟨x,hx⟩:∃x,F.comps[k]?=some x:=⟨_,gge om⟩
 refine Jz 10 ?_;refine Qb 2 rfl rfl (Bv 2 rfl (F.kids eX) (Fl.lax eX F) (fun c hc=>hc) (Jz 3 ?_));refine af [2,0,0] (aBr b8 F hF hCap k x hx (hF.comp x (sN hx)) (hT.comp k x hx) ww) ?_;rintro _ _ ⟨w2_3,rfl,rfl⟩;refine Jz 8 ?_;refine Dc ⟨⟨w2_3,k+1,rfl,rfl,rfl,om⟩,sb⟩;refine Jz 6 ?_;refine Jfw [box b8 (cF F [.string ww, .string nE, .string nE,iv 0]) 192] [0,1,2,3,4,5,6,7,8,509,10] (jS (lS 0 rfl) (jP _)) ?_;refine Jz 3 ?_;refine df rfl (Qc (i:=0) (us:=[.string nE, .string nE,iv 0]) rfl rfl aFo rfl (Ob (n:=3) rfl) rfl) ?_;refine Jz 5 ?_;refine dh rfl rfl rfl (Cf (i:=3) rfl rfl rfl aFo rfl rfl rfl (bta rfl)) (jS (lS 0 rfl) (jP _)) ?_;refine Jz 4 ?_;refine Tf [] rfl (.inl rfl) results48 rfl (i:=3) rfl aFo rfl rfl ?_;exact⟨rfl,rfl⟩
end Go.Proofs.YtihgdnjkofpgiaaGreatDoor

/- Own text. -/
import Derived.Test.YtlihklladkagpaaGreatDoorQe
import Derived.Test.YtlihklladkagpaaGreatDoorYa
set_option linter.unusedVariables false
set_option linter.unusedSimpArgs false
set_option maxHeartbeats 2000000
set_option maxRecDepth 100000
namespace Go.Proofs.YtlihklladkagpaaGreatDoor
open Go.Proofs.Tryz
open Go.RowKit Go.Flow Go.Mem Go.Sep Go.In
def zV:Vr:=⟨nE,0,0⟩
def zC:Cm:=⟨nE,none,0,[],none,0,[]⟩
def zH:Hd:=⟨nE,none,0,[],none,0,[]⟩
theorem jY{α:Type}{p:α→Bool}{l:List α}{k:Nat}{x:α}(h:l[k]?=some x)(hp:p x=true):(l.drop k).find? p=some x:=by
 obtain⟨hk,he⟩:=aEc.1 h
 rw[aGb hk,he,List.find?_cons_of_pos hp]
theorem qR{α:Type}{p:α→Bool}{l:List α}{k:Nat}{x:α}(h:l[k]?=some x)(hp:¬p x=true):(l.drop k).find? p=(l.drop (k+1)).find? p:=by
 obtain⟨hk,he⟩:=aEc.1 h
 rw[aGb hk,he,List.find?_cons_of_neg hp]
theorem jZ{α:Type}{p:α→Bool}{l:List α}{k:Nat}(h:l.length≤k):(l.drop k).find? p=none:=by rw[List.drop_of_length_le h];rfl
theorem yD{l:List ByteArray}{s:ByteArray}{k:Nat}(h:l[k]?=some s):ixF s k (l.drop k)=some k:=by
 obtain⟨hk,he⟩:=aEc.1 h
 rw[aGb hk,he,ixF,aEh rfl]
theorem MH{l:List ByteArray}{s x:ByteArray}{k:Nat}(h:l[k]?=some x)(hp:x≠s):ixF s k (l.drop k)=ixF s (k+1) (l.drop (k+1)):=by
 obtain⟨hk,he⟩:=aEc.1 h
 rw[aGb hk,he,ixF,aEa hp]
theorem yE{l:List ByteArray}{s:ByteArray}{k:Nat}(h:l.length≤k):ixF s k (l.drop k)=none:=by rw[List.drop_of_length_le h];rfl
theorem Io{P:Program}{o:Oper}{ρ:Cb}{Γ:List Ai}{x y:Operand}{t t':TypeId}{a b:ByteArray}(ho:o.op= .binOp .add t x y t')(hx:ev ρ x=some (.string a))(hy:ev ρ y=some (.string b))(hl:a.size+b.size≤140737488355328):Rd P o ρ Γ (.string (a++b)):=Rd.bin ho hx hy fun w=>by
 simp[eqGuard,binOp,Op.stringOp];omega
theorem BP(o:Option Nat):decide (0≤oI o)=o.isSome:=by cases o<;>simp[oI]
theorem fJ(A:OA)(q:Nat)(l:List Vr)(s:ByteArray)(o:Option Vr)(hl:l.length≤12)(ho:l.find? (fun x:Vr=>decide (x.name=s))=o):
    Dz 146 [vs A l q, .string s] [ros Iy A l] (fun v _=>v= .tuple #[.agg (Iy (o.getD zV)).toArray, .bool o.isSome]):=by
 refine Am func146 ntmps146 fun w0=>?_
 refine Js (To.g (Jal fun b4=>?_))
 refine Jz 12 ?_
 refine Lf (fun u g mz ρ Γ=>∃(k:Nat),ρ=[u 4,u 1,u 8,u 9,(10,nv k)]∧Γ=[g 0,g 1]∧mz=l.length-k∧(k≤l.length)∧((l.drop k).find? (fun x:Vr=>decide (x.name=s))=o)) ⟨⟨0,rfl,rfl,rfl,om,ho⟩,sb⟩ ?_
 rintro mz _ _ ⟨k,rfl,rfl,rfl,hk,ho⟩
 refine Jz 6 ?_
 refine Jcp rfl ?_ ?_<;>intro c11
 obtain⟨y,hy⟩:=exg l k om
 refine Jz 8 ?_
 refine Jal fun b7=>?_
 refine Jz 8 ?_
 refine Jr (Nt rfl rfl rfl) ?_
 refine Jn (Jt (Jcp rfl (fun c17=>?_) (fun c17=>?_)))
 refine Jz 13 ?_
 refine Lp [] rfl (.inl rfl) results146 rfl (i:=1) rfl QK rfl rfl ?_
 rw[show o=some y from by rw[←ho];exact jY hy (by simpa using c17)];rfl
 refine Jz 8 ?_
 refine Cg ⟨⟨k+1,rfl,rfl,rfl,om,(by rw[←qR hy (by simpa using c17)];exact ho)⟩,sb⟩
 refine Jz 7 ?_
 refine Jr (.bd [.string bE, .int .u8 0,iv 0]) ?_
 refine Jz 5 ?_
 refine Lp [] rfl (.inl rfl) results146 rfl (i:=0) rfl QK rfl rfl ?_
 rw[show o=none from by rw[←ho];exact jZ om];rfl
theorem uJ(A:OA)(q:Nat)(l:List Cm)(s:ByteArray)(o:Option Cm)(hl:l.length≤12)(ho:l.find? (fun x:Cm=>decide (x.name=s))=o):
    Dz 143 [vs A l q, .string s] [ros Jl A l] (fun v _=>v= .tuple #[.agg (Jl (o.getD zC)).toArray, .bool o.isSome]):=by
 refine Am func143 ntmps143 fun w0=>?_
 refine Js (To.g (Jal fun b4=>?_))
 refine Jz 12 ?_
 refine Lf (fun u g mz ρ Γ=>∃(k:Nat),ρ=[u 4,u 1,u 8,u 9,(10,nv k)]∧Γ=[g 0,g 1]∧mz=l.length-k∧(k≤l.length)∧((l.drop k).find? (fun x:Cm=>decide (x.name=s))=o)) ⟨⟨0,rfl,rfl,rfl,om,ho⟩,sb⟩ ?_
 rintro mz _ _ ⟨k,rfl,rfl,rfl,hk,ho⟩
 refine Jz 6 ?_
 refine Jcp rfl ?_ ?_<;>intro c11
 obtain⟨y,hy⟩:=exg l k om
 refine Jz 8 ?_
 refine Jal fun b7=>?_
 refine Jz 8 ?_
 refine Jr (Nt rfl rfl rfl) ?_
 refine Jn (Jt (Jcp rfl (fun c17=>?_) (fun c17=>?_)))
 refine Jz 13 ?_
 refine Lp [] rfl (.inl rfl) results143 rfl (i:=1) rfl JR rfl rfl ?_
 rw[show o=some y from by rw[←ho];exact jY hy (by simpa using c17)];rfl
 refine Jz 8 ?_
 refine Cg ⟨⟨k+1,rfl,rfl,rfl,om,(by rw[←qR hy (by simpa using c17)];exact ho)⟩,sb⟩
 refine Jz 7 ?_
 refine Jr (.bd [.string bE,nz,nz]) ?_
 refine Jz 5 ?_
 refine Lp [] rfl (.inl rfl) results143 rfl (i:=0) rfl JR rfl rfl ?_
 rw[show o=none from by rw[←ho];exact jZ om];rfl
def fdH(l:List Vs)(s:ByteArray):Option Hd:=(l.flatMap Vs.l).find? (fun x:Hd=>decide (x.name=s))
theorem MI(v:Vs)(r:List Vs)(s:ByteArray):fdH (v::r) s=(v.l.find? (fun x:Hd=>decide (x.name=s))).or (fdH r s):=by
 unfold fdH;rw[aFf,List.find?_append]
theorem MJ{l:List Vs}{k:Nat}{v:Vs}{s:ByteArray}(h:l[k]?=some v):fdH (l.drop k) s=(v.l.find? (fun x:Hd=>decide (x.name=s))).or (fdH (l.drop (k+1)) s):=by
 obtain⟨hk,he⟩:=aEc.1 h
 rw[aGb hk,he,MI]
theorem SL{l:List Vs}{k:Nat}{s:ByteArray}(h:l.length≤k):fdH (l.drop k) s=none:=by rw[List.drop_of_length_le h];rfl
theorem uK{l:List Vs}{k:Xl}{v:Vs}{i:Nat}(h:l[i]?=some v):ros Me v.A v.l∈l.flatMap (Vs.kids k):=aEy.2 ⟨v,mog h,aEd ..⟩
theorem kC(A:OA)(q:Nat)(l:List Vs)(s:ByteArray)(o:Option Hd)(hl:l.length≤12)(hl3:∀v∈l,v.l.length≤3)(ho:fdH l s=o):
    Dz 148 [vs A l q, .string s] [ros Ik A l,all (l.flatMap (Vs.kids eX))] (fun v Γ'=>v= .tuple #[.agg (Me (o.getD zH)).toArray, .bool o.isSome]∧Γ'=[]):=by
 refine Am func148 ntmps148 fun w0=>?_
 refine Js (To.g (Jal fun b4=>?_))
 refine Jz 12 ?_
 refine Lf (fun u g mz ρ Γ=>∃(k:Nat),ρ=[u 4,u 1,u 10,u 11,(12,nv k)]∧Γ=[g 0,g 1,g 2]∧mz=l.length-k∧(k≤l.length)∧(fdH (l.drop k) s=o)) ⟨⟨0,rfl,rfl,rfl,om,ho⟩,sb⟩ ?_
 rintro mz _ _ ⟨k,rfl,rfl,rfl,hk,ho⟩
 refine Jz 6 ?_
 refine Jcp rfl ?_ ?_<;>intro c13
 obtain⟨v,hv⟩:=exg l k om
 have hvl:=hl3 v (mog hv)
 refine Jz 8 ?_
 refine Jal fun b7=>?_
 refine Jz 4 ?_
 refine To.one 3 rfl (ros Me v.A v.l) rfl (uK hv) (Jz 8 ?_)
 refine Cw (fun u g mz ρ Γ=>∃(j:Nat),ρ=[u 4,u 1,u 10,u 11,u 12,u 17,u 18,(19,nv j)]∧Γ=[g 2,g 3,g 4,g 0]∧mz=v.l.length-j∧(j≤v.l.length)∧((v.l.drop j).find? (fun x:Hd=>decide (x.name=s))=v.l.find? (fun x:Hd=>decide (x.name=s)))) ⟨⟨0,rfl,rfl,rfl,om,rfl⟩,sb⟩ ?_
 rintro mz _ _ ⟨j,rfl,rfl,rfl,hj,hj0⟩
 refine Jz 6 ?_
 refine Jcp rfl ?_ ?_<;>intro c20
 obtain⟨y,hy⟩:=exg v.l j om
 refine Jz 8 ?_
 refine Jal fun b9=>?_
 refine Jz 8 ?_
 refine Jr (Nt rfl rfl rfl) ?_
 refine Jn (Jt (Jcp rfl (fun c26=>?_) (fun c26=>?_)))
 refine Jz 17 ?_
 refine Lp [] rfl (.inl rfl) results148 rfl (i:=1) rfl QL rfl rfl ?_
 rw[show o=some y from by rw[←ho,MJ hv,←hj0,jY hy (by simpa using c26)];rfl];exact⟨rfl,rfl⟩
 refine Jz 8 ?_
 refine Cg ⟨⟨j+1,rfl,rfl,rfl,om,(by rw[←qR hy (by simpa using c26)];exact hj0)⟩,sb⟩
 refine Jz 11 ?_
 refine Cg ⟨⟨k+1,rfl,rfl,rfl,om,(by rw[MJ hv,show v.l.find? (fun x:Hd=>decide (x.name=s))=none from by rw[←hj0];exact jZ om]at ho;exact ho)⟩,sb⟩
 refine Jz 7 ?_
 refine Jr (.bd [.string bE,nz,nz]) ?_
 refine Jz 5 ?_
 refine Lp [] rfl (.inl rfl) results148 rfl (i:=0) rfl QL rfl rfl ?_
 rw[show o=none from by rw[←ho];exact SL om];exact⟨rfl,rfl⟩
theorem yF(A:OA)(q:Nat)(l:List Vs)(s:ByteArray)(h:Hd)(hl:l.length≤12)(hl3:∀v∈l,v.l.length≤3)(ho:fdH l s=some h):Dz 148 [vs A l q, .string s] [ros Ik A l,all (l.flatMap (Vs.kids eX))] (fun v Γ'=>v= .tuple #[.agg (Me h).toArray, .bool true]∧Γ'=[]):=kC A q l s (some h) hl hl3 ho
theorem kD(A:OA)(q:Nat)(l:List Cm)(s:ByteArray)(c:Cm)(hl:l.length≤12)(ho:l.find? (fun x:Cm=>decide (x.name=s))=some c):Dz 143 [vs A l q, .string s] [ros Jl A l] (fun v _=>v= .tuple #[.agg (Jl c).toArray, .bool true]):=uJ A q l s (some c) hl ho
theorem Kl(A:OA)(q:Nat)(l:List ByteArray)(s:ByteArray)(o:Option Nat)(hl:l.length≤12)(ho:ixF s 0 l=o):
    Dz 91 [vs A l q, .string s] [ros encZ A l] (fun v _=>v=iv (oI o)):=by
 refine Am func91 ntmps91 fun w0=>?_
 refine Jz 14 ?_
 refine Lf (fun u g mz ρ Γ=>∃(k:Nat),ρ=[u 0,u 1,u 6,u 7,(8,nv k)]∧Γ=[g 0]∧mz=l.length-k∧(k≤l.length)∧(ixF s k (l.drop k)=o)) ⟨⟨0,rfl,rfl,rfl,om,ho⟩,sb⟩ ?_
 rintro mz _ _ ⟨k,rfl,rfl,rfl,hk,ho⟩
 refine Jz 6 ?_
 refine Jcp rfl ?_ ?_<;>intro k9
 obtain⟨y,hy⟩:=exg l k om
 refine Jz 17 ?_
 refine Jr (Nt rfl rfl rfl) ?_
 refine Jn (Jt (Jcp rfl (fun k16=>?_) (fun k16=>?_)))
 refine Jz 12 ?_
 refine Je1 results91 ?_
 rw[show o=some k from by rw[←ho];exact yD (by rw[k16];exact hy)];rfl
 refine Jz 8 ?_
 refine Hu ⟨⟨k+1,rfl,rfl,rfl,om,(by rw[←MH hy (fun e=>k16 e.symm)];exact ho)⟩,sb⟩
 refine Jz 11 ?_
 refine Je1 results91 ?_
 rw[show o=none from by rw[←ho];exact yE om];rfl
theorem Tc(A:OA)(q:Nat)(l:List ByteArray)(s:ByteArray)(o:Option Nat)(hl:l.length≤12)(ho:ixF s 0 l=o):
    Dz 90 [vs A l q, .string s] [ros encZ A l] (fun v _=>v= .bool o.isSome):=by
 refine Am func90 ntmps90 fun w0=>?_
 refine Jz 9 ?_
 refine Jvf (Kl A q l s o hl ho) rfl (ocs (oca 0 rfl) (ocn _)) ?_
 refine Jr (Cr (v':= .bool o.isSome) (congrArg Value.bool (BP o)) (Rd.geq rfl rfl rfl)) ?_
 refine Jz 4 ?_
 refine Je1 results90 ?_
 rfl
theorem ML(b:Nat)(s:ByteArray)(x:Fg):
    Dz 179 [.agg (Gx x).toArray,pv b] [ro (some ⟨b,0,none⟩) [.string s]] (fun v _=>v= .bool (decide (x.name=s))):=by
 refine Am func179 ntmps179 fun w0=>?_
 refine Js (To.g (Jbo fun b2=>?_))
 refine Jz 7 ?_
 refine Jr (Ck (i:=1) rfl rfl c9 rfl (Iq (A:=some ⟨b,0,none⟩) (o:=0) (k:=1) rfl)) ?_
 refine Jr (Nt rfl rfl rfl) ?_
 refine Jz 4 ?_
 refine Je1 results179 ?_
 rfl
theorem FR(b:Nat)(A:OA)(q:Nat)(l:List Fg)(s:ByteArray)(o:Option Nat)(hl:l.length≤12)(ho:ixF s 0 (l.map Fg.name)=o):
    Dz 199 [vs A l q, .func (.func 179) #[] #[pv b]] [ros Gx A l,ro (some ⟨b,0,none⟩) [.string s]] (fun v _=>v=iv (oI o)):=by
 refine Am func199 ntmps199 fun w0=>?_
 refine Jz 14 ?_
 refine Lf (fun u g mz ρ Γ=>∃(k:Nat),ρ=[u 0,u 1,u 6,u 7,(8,nv k)]∧Γ=[g 0,g 1]∧mz=l.length-k∧(k≤l.length)∧(ixF s k ((l.map Fg.name).drop k)=o)) ⟨⟨0,rfl,rfl,rfl,om,ho⟩,sb⟩ ?_
 rintro mz _ _ ⟨k,rfl,rfl,rfl,hk,ho⟩
 refine Jz 6 ?_
 refine Jcp rfl ?_ ?_<;>intro k9
 obtain⟨y,hy⟩:=exg l k om
 refine Jz 17 ?_
 refine JcV rfl rfl rfl (Ent.func (first:=[]) (captured:=[pv b]) rfl rfl rfl (kc.h 179 rfl)) (ML b s y) rfl (ocs (oca 1 rfl) (ocn _)) (Jn (Jt (Jcp rfl (fun k16=>?_) (fun k16=>?_))))
 refine Jz 12 ?_
 refine Je1 results199 ?_
 rw[show o=some k from by rw[←ho];exact yD (by rw[aEp,hy,←k16];rfl)];rfl
 refine Jz 8 ?_
 refine Hu ⟨⟨k+1,rfl,rfl,rfl,om,(by rw[←MH (x:=y.name) (by rw[aEp,hy];rfl) k16];exact ho)⟩,sb⟩
 refine Jz 11 ?_
 refine Je1 results199 ?_
 rw[show o=none from by rw[←ho];exact yE (by rw[aEg];omega)];rfl
theorem qU(b:Nat)(A:OA)(q:Nat)(l:List Fg)(s:ByteArray)(o:Option Nat)(hl:l.length≤12)(ho:ixF s 0 (l.map Fg.name)=o):
    Dz 178 [vs A l q, .func (.func 179) #[] #[pv b]] [ros Gx A l,ro (some ⟨b,0,none⟩) [.string s]] (fun v _=>v= .bool o.isSome):=by
 refine Am func178 ntmps178 fun w0=>?_
 refine Jz 9 ?_
 refine Jvf (FR b A q l s o hl ho) rfl (ocs (oca 0 rfl) (ocs (oca 1 rfl) (ocn _))) ?_
 refine Jr (Cr (v':= .bool o.isSome) (congrArg Value.bool (BP o)) (Rd.geq rfl rfl rfl)) ?_
 refine Jz 4 ?_
 refine Je1 results178 ?_
 rfl
theorem Tx(A:OA)(q:Nat)(l:List Fg)(s:ByteArray)(o:Option Nat)(hl:l.length≤12)(ho:ixF s 0 (l.map Fg.name)=o):
    Dz 142 [vs A l q, .string s] [ros Gx A l] (fun v _=>v= .bool o.isSome):=by
 refine Am func142 ntmps142 fun w0=>?_
 refine Js (To.g (Jbo fun b3=>?_))
 refine Jz 4 ?_
 refine Zh (Jz 2 ?_)
 refine Jr (Rd.makeFunc rfl rfl rfl) ?_
 refine Jvf (qU b3 A q l s o hl ho) rfl (ocs (oca 1 rfl) (ocs (oca 0 rfl) (ocn _))) ?_
 refine Jz 4 ?_
 refine Je1 results142 ?_
 rfl
theorem bV(b:Nat)(F:Fl)(w n:ByteArray):
    Dz 86 [pv b,iv 0, .string n] [box b (cF F [.string w, .string nE, .string nE,iv 0]) 235] (fun v Γ'=>v= .bool true∧Γ'=[box b (cF F [.string w, .string nE, .string nE,iv 0]) 235]):=by
 refine Am func86 ntmps86 fun w0=>?_
 refine Jz 35 ?_
 refine Je1 results86 ?_
 exact⟨rfl,rfl⟩
theorem nD(b:Nat)(F:Fl)(w n:ByteArray):
    Dz 140 [pv b, .string n] [box b (cF F [.string w, .string nE, .string nE,iv 0]) 235] (fun v Γ'=>v= .bool true∧Γ'=[box b (cF F [.string n, .string nE, .string nE,iv 0]) 235]):=by
 refine Am func140 ntmps140 fun w0=>?_
 refine Jz 26 ?_
 refine Je1 results140 ?_
 exact⟨rfl,rfl⟩
theorem Ia(b:Nat)(F:Fl)(w n:ByteArray)(e:Int):
    Dz 141 [pv b, .bool true,iv e, .string n] [box b (cF F [.string w, .string nE, .string nE,iv 0]) 235] (fun v Γ'=>v= .bool true∧Γ'=[box b (cF F [.string w, .string nE, .string nE,iv 0]) 235]):=by
 refine Am func141 ntmps141 fun w0=>?_
 refine Jz 21 ?_
 refine Jcf [0] (bV b F w n) ?_
 rintro _ _ ⟨rfl,rfl⟩
 refine Jz 4 ?_
 refine Je1 results141 ?_
 exact⟨rfl,rfl⟩
theorem FT(b:Nat)(z x:Lk):
    Dz 144 [.agg (Lb x).toArray,pv b] [ro (some ⟨b,0,none⟩) [.string z.src, .string z.dst,iv z.lat]] (fun v _=>v= .bool (decide (x.src=z.src)&&decide (x.dst=z.dst))):=by
 refine Am func144 ntmps144 fun w0=>?_
 refine Js (To.g (Jbo fun b2=>?_))
 refine Jz 8 ?_
 refine Jr (Ck (i:=1) rfl rfl c9 rfl (Iq (A:=some ⟨b,0,none⟩) (o:=0) (k:=1) rfl)) ?_
 refine Jr (Nt rfl rfl rfl) ?_
 refine JgP ?_ ?_<;>intro g9
 refine Jz 3 ?_
 refine Jr (Ck (i:=1) rfl rfl c9 rfl (Iq (A:=some ⟨b,0,none⟩) (o:=1) (k:=1) rfl)) ?_
 refine Jr (Nt rfl rfl rfl) ?_
 refine Jz 5 ?_
 refine Je1 results144 ?_
 simp[*]
 refine Jz 10 ?_
 refine Je1 results144 ?_
 simp[*]
theorem FU(b:Nat)(z:Lk)(A:OA)(q:Nat)(l:List Lk)(hl:l.length≤12)(hn:∀y∈l,¬(y.src=z.src∧y.dst=z.dst)):
    Dz 180 [vs A l q, .func (.func 144) #[] #[pv b]] [ros Lb A l,ro (some ⟨b,0,none⟩) [.string z.src, .string z.dst,iv z.lat]] (fun v _=>v=iv (-1)):=by
 refine Am func180 ntmps180 fun w0=>?_
 refine Jz 14 ?_
 refine Lf (fun s g mz ρ Γ=>∃(k:Nat),ρ=[s 0,s 1,s 6,s 7,(8,nv k)]∧Γ=[g 0,g 1]∧mz=l.length-k∧(k≤l.length)) ⟨⟨0,rfl,rfl,rfl,om⟩,sb⟩ ?_
 rintro mz _ _ ⟨k,rfl,rfl,rfl,hk⟩
 refine Jz 6 ?_
 refine Jcp rfl ?_ ?_<;>intro k9
 obtain⟨y,hy⟩:=exg l k om
 refine Jz 17 ?_
 refine JcV rfl rfl rfl (Ent.func (first:=[]) (captured:=[pv b]) rfl rfl rfl (kc.h 144 rfl)) (FT b z y) rfl (ocs (oca 1 rfl) (ocn _)) (Jn (Jt (Ed rfl (fun k16=>?_) (fun k16=>?_))))
 exact absurd (by simpa using k16) (hn y (mog hy))
 refine Jz 8 ?_
 refine Hu ⟨⟨k+1,rfl,rfl,rfl,om⟩,sb⟩
 refine Jz 11 ?_
 refine Je1 results180 ?_
 rfl
theorem qV(b:Nat)(z:Lk)(A:OA)(q:Nat)(l:List Lk)(hl:l.length≤12)(hn:∀y∈l,¬(y.src=z.src∧y.dst=z.dst)):
    Dz 145 [vs A l q, .func (.func 144) #[] #[pv b]] [ros Lb A l,ro (some ⟨b,0,none⟩) [.string z.src, .string z.dst,iv z.lat]] (fun v _=>v= .bool false):=by
 refine Am func145 ntmps145 fun w0=>?_
 refine Jz 9 ?_
 refine Jvf (FU b z A q l hl hn) rfl (ocs (oca 0 rfl) (ocs (oca 1 rfl) (ocn _))) ?_
 refine Jz 5 ?_
 refine Je1 results145 ?_
 rfl
end Go.Proofs.YtlihklladkagpaaGreatDoor

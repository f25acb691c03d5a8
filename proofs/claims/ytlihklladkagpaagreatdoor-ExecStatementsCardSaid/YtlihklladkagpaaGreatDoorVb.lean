/- Own text. -/
import Derived.Test.YtlihklladkagpaaGreatDoorQe
import Derived.Test.YtlihklladkagpaaGreatDoorYa
set_option linter.unusedVariables false
set_option linter.unusedSimpArgs false
set_option maxHeartbeats 2000000
set_option maxRecDepth 100000
namespace Go.Proofs.YtlihklladkagpaaGreatDoor
open Go.Proofs.Tryz
open Go.RowKit Go.Flow Go.Mem Go.Sep Go.In
def zV:Vr:=⟨nE,0,0⟩
def zC:Cm:=⟨nE,none,0,[],none,0,[]⟩
def zH:Hd:=⟨nE,none,0,[],none,0,[]⟩
theorem jY{α:Type}{p:α→Bool}{l:List α}{k:Nat}{x:α}(h:l[k]?=some x)(hp:p x=true):(l.drop k).find? p=some x:=by
 obtain⟨hk,he⟩:=aEc.1 h
 rw[aGb hk,he,List.find?_cons_of_pos hp]
theorem qR{α:Type}{p:α→Bool}{l:List α}{k:Nat}{x:α}(h:l[k]?=some x)(hp:¬p x=true):(l.drop k).find? p=(l.drop (k+1)).find? p:=by
 obtain⟨hk,he⟩:=aEc.1 h
 rw[aGb hk,he,List.find?_cons_of_neg hp]
theorem jZ{α:Type}{p:α→Bool}{l:List α}{k:Nat}(h:l.length≤k):(l.drop k).find? p=none:=by rw[List.drop_of_length_le h];rfl
theorem yD{l:List ByteArray}{s:ByteArray}{k:Nat}(h:l[k]?=some s):ixF s k (l.drop k)=some k:=by
 obtain⟨hk,he⟩:=aEc.1 h
 rw[aGb hk,he,ixF,aEh rfl]
theorem MH{l:List ByteArray}{s x:ByteArray}{k:Nat}(h:l[k]?=some x)(hp:x≠s):ixF s k (l.drop k)=ixF s (k+1) (l.drop (k+1)):=by
 obtain⟨hk,he⟩:=aEc.1 h
 rw[aGb hk,he,ixF,aEa hp]
theorem yE{l:List ByteArray}{s:ByteArray}{k:Nat}(h:l.length≤k):ixF s k (l.drop k)=none:=by rw[List.drop_of_length_le h];rfl
theorem Io{P:Program}{o:Oper}{ρ:Cb}{Γ:List Ai}{x y:Operand}{t t':TypeId}{a b:ByteArray}(ho:o.op= .binOp .add t x y t')(hx:ev ρ x=some (.string a))(hy:ev ρ y=some (.string b))(hl:a.size+b.size≤140737488355328):Rd P o ρ Γ (.string (a++b)):=Rd.bin ho hx hy fun w=>by
 simp[eqGuard,binOp,Op.stringOp];omega
theorem BP(o:Option Nat):decide (0≤oI o)=o.isSome:=by cases o<;>simp[oI]
theorem fJ(A:OA)(q:Nat)(l:List Vr)(s:ByteArray)(o:Option Vr)(hl:l.length≤12)(ho:l.find? (fun x:Vr=>decide (x.name=s))=o):
    Dz 146 [vs A l q, .string s] [ros Iy A l] (fun v _=>v= .tuple #[.agg (Iy (o.getD zV)).toArray, .bool o.isSome]):=by
 refine Am func146 ntmps146 fun w0=>?_
 refine Js (To.g (Jal fun b4=>?_))
 refine Jz 12 ?_
 refine Lf (fun u g mz ρ Γ=>∃(k:Nat),ρ=[u 4,u 1,u 8,u 9,(10,nv k)]∧Γ=[g 0,g 1]∧mz=l.length-k∧(k≤l.length)∧((l.drop k).find? (fun x:Vr=>decide (x.name=s))=o)) ⟨⟨0,rfl,rfl,rfl,om,ho⟩,sb⟩ ?_
 rintro mz _ _ ⟨k,rfl,rfl,rfl,hk,ho⟩
 refine Jz 6 ?_
 refine Jcp rfl ?_ ?_<;>intro c11
 obtain⟨y,hy⟩:=exg l k om
 refine Jz 8 ?_
 refine Jal fun b7=>?_
 refine Jz 8 ?_
 refine Jr (Nt rfl rfl rfl) ?_
 refine Jn (Jt (Jcp rfl (fun c17=>?_) (fun c17=>?_)))
 refine Jz 13 ?_
 refine Lp [] rfl (.inl rfl) results146 rfl (i:=1) rfl QK rfl rfl ?_
 rw[show o=some y from by rw[←ho];exact jY hy (by simpa using c17)];rfl
 refine Jz 8 ?_
 refine Cg ⟨⟨k+1,rfl,rfl,rfl,om,(by rw[←qR hy (by simpa using c17)];exact ho)⟩,sb⟩
 refine Jz 7 ?_
 refine Jr (.bd [.string bE, .int .u8 0,iv 0]) ?_
 refine Jz 5 ?_
 refine Lp [] rfl (.inl rfl) results146 rfl (i:=0) rfl QK rfl rfl ?_
 rw[show o=none from by rw[←ho];exact jZ om];rfl
theorem uJ(A:OA)(q:Nat)(l:List Cm)(s:ByteArray)(o:Option Cm)(hl:l.length≤12)(ho:l.find? (fun x:Cm=>decide (x.name=s))=o):
    Dz 143 [vs A l q, .string s] [ros Jl A l] (fun v _=>v= .tuple #[.agg (Jl (o.getD zC)).toArray, .bool o.isSome]):=by
 refine Am func143 ntmps143 fun w0=>?_
 refine Js (To.g (Jal fun b4=>?_))
 refine Jz 12 ?_
 refine Lf (fun u g mz ρ Γ=>∃(k:Nat),ρ=[u 4,u 1,u 8,u 9,(10,nv k)]∧Γ=[g 0,g 1]∧mz=l.length-k∧(k≤l.length)∧((l.drop k).find? (fun x:Cm=>decide (x.name=s))=o)) ⟨⟨0,rfl,rfl,rfl,om,ho⟩,sb⟩ ?_
 rintro mz _ _ ⟨k,rfl,rfl,rfl,hk,ho⟩
 refine Jz 6 ?_
 refine Jcp rfl ?_ ?_<;>intro c11
 obtain⟨y,hy⟩:=exg l k om
 refine Jz 8 ?_
 refine Jal fun b7=>?_
 refine Jz 8 ?_
 refine Jr (Nt rfl rfl rfl) ?_
 refine Jn (Jt (Jcp rfl (fun c17=>?_) (fun c17=>?_)))
 refine Jz 13 ?_
 refine Lp [] rfl (.inl rfl) results143 rfl (i:=1) rfl JR rfl rfl ?_
 rw[show o=some y from by rw[←ho];exact jY hy (by simpa using c17)];rfl
 refine Jz 8 ?_
 refine Cg ⟨⟨k+1,rfl,rfl,rfl,om,(by rw[←qR hy (by simpa using c17)];exact ho)⟩,sb⟩
 refine Jz 7 ?_
 refine Jr (.bd [.string bE,nz,nz]) ?_
 refine Jz 5 ?_
 refine Lp [] rfl (.inl rfl) results143 rfl (i:=0) rfl JR rfl rfl ?_
 rw[show o=none from by rw[←ho];exact jZ om];rfl
def fdH(l:List Vs)(s:ByteArray):Option Hd:=(l.flatMap Vs.l).find? (fun x:Hd=>decide (x.name=s))
theorem MI(v:Vs)(r:List Vs)(s:ByteArray):fdH (v::r) s=(v.l.find? (fun x:Hd=>decide (x.name=s))).or (fdH r s):=by
 unfold fdH;rw[aFf,List.find?_append]
theorem MJ{l:List Vs}{k:Nat}{v:Vs}{s:ByteArray}(h:l[k]?=some v):fdH (l.drop k) s=(v.l.find? (fun x:Hd=>decide (x.name=s))).or (fdH (l.drop (k+1)) s):=by
 obtain⟨hk,he⟩:=aEc.1 h
 rw[aGb hk,he,MI]
theorem SL{l:List Vs}{k:Nat}{s:ByteArray}(h:l.length≤k):fdH (l.drop k) s=none:=by rw[List.drop_of_length_le h];rfl
theorem uK{l:List Vs}{k:Xl}{v:Vs}{i:Nat}(h:l[i]?=some v):ros Me v.A v.l∈l.flatMap (Vs.kids k):=aEy.2 ⟨v,mog h,aEd ..⟩
theorem kC(A:OA)(q:Nat)(l:List Vs)(s:ByteArray)(o:Option Hd)(hl:l.length≤12)(hl3:∀v∈l,v.l.length≤3)(ho:fdH l s=o):
    Dz 148 [vs A l q, .string s] [ros Ik A l,all (l.flatMap (Vs.kids eX))] (fun v Γ'=>v= .tuple #[.agg (Me (o.getD zH)).toArray, .bool o.isSome]∧Γ'=[]):=by
 refine Am func148 ntmps148 fun w0=>?_
 refine Js (To.g (Jal fun b4=>?_))
 refine Jz 12 ?_
 refine Lf (fun u g mz ρ Γ=>∃(k:Nat),ρ=[u 4,u 1,u 10,u 11,(12,nv k)]∧Γ=[g 0,g 1,g 2]∧mz=l.length-k∧(k≤l.length)∧(fdH (l.drop k) s=o)) ⟨⟨0,rfl,rfl,rfl,om,ho⟩,sb⟩ ?_
 rintro mz _ _ ⟨k,rfl,rfl,rfl,hk,ho⟩
 refine Jz 6 ?_
 refine Jcp rfl ?_ ?_<;>intro c13
 obtain⟨v,hv⟩:=exg l k om
 have hvl:=hl3 v (mog hv)
 refine Jz 8 ?_
 refine Jal fun b7=>?_
 refine Jz 4 ?_
 refine To.one 3 rfl (ros Me v.A v.l) rfl (uK hv) (Jz 8 ?_)
 refine Cw (fun u g mz ρ Γ=>∃(j:Nat),ρ=[u 4,u 1,u 10,u 11,u 12,u 17,u 18,(19,nv j)]∧Γ=[g 2,g 3,g 4,g 0]∧mz=v.l.length-j∧(j≤v.l.length)∧((v.l.drop j).find? (fun x:Hd=>decide (x.name=s))=v.l.find? (fun x:Hd=>decide (x.name=s)))) ⟨⟨0,rfl,rfl,rfl,om,rfl⟩,sb⟩ ?_
 rintro mz _ _ ⟨j,rfl,rfl,rfl,hj,hj0⟩
 refine Jz 6 ?_
 refine Jcp rfl ?_ ?_<;>intro c20
 obtain⟨y,hy⟩:=exg v.l j om
 refine Jz 8 ?_
 refine Jal fun b9=>?_
 refine Jz 8 ?_
 refine Jr (Nt rfl rfl rfl) ?_
 refine Jn (Jt (Jcp rfl (fun c26=>?_) (fun c26=>?_)))
 refine Jz 17 ?_
 refine Lp [] rfl (.inl rfl) results148 rfl (i:=1) rfl QL rfl rfl ?_
 rw[show o=some y from by rw[←ho,MJ hv,←hj0,jY hy (by simpa using c26)];rfl];exact⟨rfl,rfl⟩
 refine Jz 8 ?_
 refine Cg ⟨⟨j+1,rfl,rfl,rfl,om,(by rw[←qR hy (by simpa using c26)];exact hj0)⟩,sb⟩
 refine Jz 11 ?_
 refine Cg ⟨⟨k+1,rfl,rfl,rfl,om,(by rw[MJ hv,show v.l.find? (fun x:Hd=>decide (x.name=s))=none from by rw[←hj0];exact jZ om]at ho;exact ho)⟩,sb⟩
 refine Jz 7 ?_
 refine Jr (.bd [.string bE,nz,nz]) ?_
 refine Jz 5 ?_
 refine Lp [] rfl (.inl rfl) results148 rfl (i:=0) rfl QL rfl rfl ?_
 rw[show o=none from by rw[←ho];exact SL om];exact⟨rfl,rfl⟩
theorem yF(A:OA)(q:Nat)(l:List Vs)(s:ByteArray)(h:Hd)(hl:l.length≤12)(hl3:∀v∈l,v.l.length≤3)(ho:fdH l s=some h):Dz 148 [vs A l q, .string s] [ros Ik A l,all (l.flatMap (Vs.kids eX))] (fun v Γ'=>v= .tuple #[.agg (Me h).toArray, .bool true]∧Γ'=[]):=kC A q l s (some h) hl hl3 ho
theorem kD(A:OA)(q:Nat)(l:List Cm)(s:ByteArray)(c:Cm)(hl:l.length≤12)(ho:l.find? (fun x:Cm=>decide (x.name=s))=some c):Dz 143 [vs A l q, .string s] [ros Jl A l] (fun v _=>v= .tuple #[.agg (Jl c).toArray, .bool true]):=uJ A q l s (some c) hl ho
theorem Kl(A:OA)(q:Nat)(l:List ByteArray)(s:ByteArray)(o:Option Nat)(hl:l.length≤12)(ho:ixF s 0 l=o):
    Dz 91 [vs A l q, .string s] [ros aMb A l] (fun v _=>v=iv (oI o)):=by
 refine Am func91 ntmps91 fun w0=>?_
 refine Jz 14 ?_
 refine Lf (fun u g mz ρ Γ=>∃(k:Nat),ρ=[u 0,u 1,u 6,u 7,(8,nv k)]∧Γ=[g 0]∧mz=l.length-k∧(k≤l.length)∧(ixF s k (l.drop k)=o)) ⟨⟨0,rfl,rfl,rfl,om,ho⟩,sb⟩ ?_
 rintro mz _ _ ⟨k,rfl,rfl,rfl,hk,ho⟩
 refine Jz 6 ?_
 refine Jcp rfl ?_ ?_<;>intro k9
 obtain⟨y,hy⟩:=exg l k om
 refine Jz 17 ?_
 refine Jr (Nt rfl rfl rfl) ?_
 refine Jn (Jt (Jcp rfl (fun k16=>?_) (fun k16=>?_)))
 refine Jz 12 ?_
 refine Je1 results91 ?_
 rw[show o=some k from by rw[←ho];exact yD (by rw[k16];exact hy)];rfl
 refine Jz 8 ?_
 refine Hu ⟨⟨k+1,rfl,rfl,rfl,om,(by rw[←MH hy (fun e=>k16 e.symm)];exact ho)⟩,sb⟩
 refine Jz 11 ?_
 refine Je1 results91 ?_
 rw[show o=none from by rw[←ho];exact yE om];rfl
theorem Tc(A:OA)(q:Nat)(l:List ByteArray)(s:ByteArray)(o:Option Nat)(hl:l.length≤12)(ho:ixF s 0 l=o):
    Dz 90 [vs A l q, .string s] [ros aMb A l] (fun v _=>v= .bool o.isSome):=by
 refine Am func90 ntmps90 fun w0=>?_
 refine Jz 9 ?_
 refine Jvf (Kl A q l s o hl ho) rfl (ocs (oca 0 rfl) (ocn _)) ?_
 refine Jr (Cr (v':= .bool o.isSome) (congrArg Value.bool (BP o)) (Rd.geq rfl rfl rfl)) ?_
 refine Jz 4 ?_
 refine Je1 results90 ?_
 rfl
theorem ML(b:Nat)(s:ByteArray)(x:Fg):
    Dz 179 [.agg (Gx x).toArray,pv b] [ro (some ⟨b,0,none⟩) [.string s]] (fun v _=>v= .bool (decide (x.name=s))):=by
 refine Am func179 ntmps179 fun w0=>?_
 refine Js (To.g (Jbo fun b2=>?_))
 refine Jz 7 ?_
 refine Jr (Ck (i:=1) rfl rfl c9 rfl (Iq (A:=some ⟨b,0,none⟩) (o:=0) (k:=1) rfl)) ?_
 refine Jr (Nt rfl rfl rfl) ?_
 refine Jz 4 ?_
 refine Je1 results179 ?_
 rfl
theorem FR(b:Nat)(A:OA)(q:Nat)(l:List Fg)(s:ByteArray)(o:Option Nat)(hl:l.length≤12)(ho:ixF s 0 (l.map Fg.name)=o):
    Dz 199 [vs A l q, .func (.func 179) #[] #[pv b]] [ros Gx A l,ro (some ⟨b,0,none⟩) [.string s]] (fun v _=>v=iv (oI o)):=by
 refine Am func199 ntmps199 fun w0=>?_
 refine Jz 14 ?_
 refine Lf (fun u g mz ρ Γ=>∃(k:Nat),ρ=[u 0,u 1,u 6,u 7,(8,nv k)]∧Γ=[g 0,g 1]∧mz=l.length-k∧(k≤l.length)∧(ixF s k ((l.map Fg.name).drop k)=o)) ⟨⟨0,rfl,rfl,rfl,om,ho⟩,sb⟩ ?_
 rintro mz _ _ ⟨k,rfl,rfl,rfl,hk,ho⟩
 refine Jz 6 ?_
 refine Jcp rfl ?_ ?_<;>intro k9
 obtain⟨y,hy⟩:=exg l k om
 refine Jz 17 ?_
 refine JcV rfl rfl rfl (Ent.func (first:=[]) (captured:=[pv b]) rfl rfl rfl (kc.h 179 rfl)) (ML b s y) rfl (ocs (oca 1 rfl) (ocn _)) (Jn (Jt (Jcp rfl (fun k16=>?_) (fun k16=>?_))))
 refine Jz 12 ?_
 refine Je1 results199 ?_
 rw[show o=some k from by rw[←ho];exact yD (by rw[aEp,hy,←k16];rfl)];rfl
 refine Jz 8 ?_
 refine Hu ⟨⟨k+1,rfl,rfl,rfl,om,(by rw[←MH (x:=y.name) (by rw[aEp,hy];rfl) k16];exact ho)⟩,sb⟩
 refine Jz 11 ?_
 refine Je1 results199 ?_
 rw[show o=none from by rw[←ho];exact yE (by rw[aEg];omega)];rfl
theorem qU(b:Nat)(A:OA)(q:Nat)(l:List Fg)(s:ByteArray)(o:Option Nat)(hl:l.length≤12)(ho:ixF s 0 (l.map Fg.name)=o):
    Dz 178 [vs A l q, .func (.func 179) #[] #[pv b]] [ros Gx A l,ro (some ⟨b,0,none⟩) [.string s]] (fun v _=>v= .bool o.isSome):=by
 refine Am func178 ntmps178 fun w0=>?_
 refine Jz 9 ?_
 refine Jvf (FR b A q l s o hl ho) rfl (ocs (oca 0 rfl) (ocs (oca 1 rfl) (ocn _))) ?_
 refine Jr (Cr (v':= .bool o.isSome) (congrArg Value.bool (BP o)) (Rd.geq rfl rfl rfl)) ?_
 refine Jz 4 ?_
 refine Je1 results178 ?_
 rfl
theorem Tx(A:OA)(q:Nat)(l:List Fg)(s:ByteArray)(o:Option Nat)(hl:l.length≤12)(ho:ixF s 0 (l.map Fg.name)=o):
    Dz 142 [vs A l q, .string s] [ros Gx A l] (fun v _=>v= .bool o.isSome):=by
 refine Am func142 ntmps142 fun w0=>?_
 refine Js (To.g (Jbo fun b3=>?_))
 refine Jz 4 ?_
 refine Zh (Jz 2 ?_)
 refine Jr (Rd.makeFunc rfl rfl rfl) ?_
 refine Jvf (qU b3 A q l s o hl ho) rfl (ocs (oca 1 rfl) (ocs (oca 0 rfl) (ocn _))) ?_
 refine Jz 4 ?_
 refine Je1 results142 ?_
 rfl
theorem bV(b:Nat)(F:Fl)(w n:ByteArray):
    Dz 86 [pv b,iv 0, .string n] [box b (cF F [.string w, .string nE, .string nE,iv 0]) 235] (fun v Γ'=>v= .bool true∧Γ'=[box b (cF F [.string w, .string nE, .string nE,iv 0]) 235]):=by
 refine Am func86 ntmps86 fun w0=>?_
 refine Jz 35 ?_
 refine Je1 results86 ?_
 exact⟨rfl,rfl⟩
theorem nD(b:Nat)(F:Fl)(w n:ByteArray):
    Dz 140 [pv b, .string n] [box b (cF F [.string w, .string nE, .string nE,iv 0]) 235] (fun v Γ'=>v= .bool true∧Γ'=[box b (cF F [.string n, .string nE, .string nE,iv 0]) 235]):=by
 refine Am func140 ntmps140 fun w0=>?_
 refine Jz 26 ?_
 refine Je1 results140 ?_
 exact⟨rfl,rfl⟩
theorem Ia(b:Nat)(F:Fl)(w n:ByteArray)(e:Int):
    Dz 141 [pv b, .bool true,iv e, .string n] [box b (cF F [.string w, .string nE, .string nE,iv 0]) 235] (fun v Γ'=>v= .bool true∧Γ'=[box b (cF F [.string w, .string nE, .string nE,iv 0]) 235]):=by
 refine Am func141 ntmps141 fun w0=>?_
 refine Jz 21 ?_
 refine Jcf [0] (bV b F w n) ?_
 rintro _ _ ⟨rfl,rfl⟩
 refine Jz 4 ?_
 refine Je1 results141 ?_
 exact⟨rfl,rfl⟩
theorem FT(b:Nat)(z x:Lk):
    Dz 144 [.agg (Lb x).toArray,pv b] [ro (some ⟨b,0,none⟩) [.string z.src, .string z.dst,iv z.lat]] (fun v _=>v= .bool (decide (x.src=z.src)&&decide (x.dst=z.dst))):=by
 refine Am func144 ntmps144 fun w0=>?_
 refine Js (To.g (Jbo fun b2=>?_))
 refine Jz 8 ?_
 refine Jr (Ck (i:=1) rfl rfl c9 rfl (Iq (A:=some ⟨b,0,none⟩) (o:=0) (k:=1) rfl)) ?_
 refine Jr (Nt rfl rfl rfl) ?_
 refine JgP ?_ ?_<;>intro g9
 refine Jz 3 ?_
 refine Jr (Ck (i:=1) rfl rfl c9 rfl (Iq (A:=some ⟨b,0,none⟩) (o:=1) (k:=1) rfl)) ?_
 refine Jr (Nt rfl rfl rfl) ?_
 refine Jz 5 ?_
 refine Je1 results144 ?_
 simp[*]
 refine Jz 10 ?_
 refine Je1 results144 ?_
 simp[*]
theorem FU(b:Nat)(z:Lk)(A:OA)(q:Nat)(l:List Lk)(hl:l.length≤12)(hn:∀y∈l,¬(y.src=z.src∧y.dst=z.dst)):
    Dz 180 [vs A l q, .func (.func 144) #[] #[pv b]] [ros Lb A l,ro (some ⟨b,0,none⟩) [.string z.src, .string z.dst,iv z.lat]] (fun v _=>v=iv (-1)):=by
 refine Am func180 ntmps180 fun w0=>?_
 refine Jz 14 ?_
 refine Lf (fun s g mz ρ Γ=>∃(k:Nat),ρ=[s 0,s 1,s 6,s 7,(8,nv k)]∧Γ=[g 0,g 1]∧mz=l.length-k∧(k≤l.length)) ⟨⟨0,rfl,rfl,rfl,om⟩,sb⟩ ?_
 rintro mz _ _ ⟨k,rfl,rfl,rfl,hk⟩
 refine Jz 6 ?_
 refine Jcp rfl ?_ ?_<;>intro k9
 obtain⟨y,hy⟩:=exg l k om
 refine Jz 17 ?_
 refine JcV rfl rfl rfl (Ent.func (first:=[]) (captured:=[pv b]) rfl rfl rfl (kc.h 144 rfl)) (FT b z y) rfl (ocs (oca 1 rfl) (ocn _)) (Jn (Jt (Ed rfl (fun k16=>?_) (fun k16=>?_))))
 exact absurd (by simpa using k16) (hn y (mog hy))
 refine Jz 8 ?_
 refine Hu ⟨⟨k+1,rfl,rfl,rfl,om⟩,sb⟩
 refine Jz 11 ?_
 refine Je1 results180 ?_
 rfl
theorem qV(b:Nat)(z:Lk)(A:OA)(q:Nat)(l:List Lk)(hl:l.length≤12)(hn:∀y∈l,¬(y.src=z.src∧y.dst=z.dst)):
    Dz 145 [vs A l q, .func (.func 144) #[] #[pv b]] [ros Lb A l,ro (some ⟨b,0,none⟩) [.string z.src, .string z.dst,iv z.lat]] (fun v _=>v= .bool false):=by
 refine Am func145 ntmps145 fun w0=>?_
 refine Jz 9 ?_
 refine Jvf (FU b z A q l hl hn) rfl (ocs (oca 0 rfl) (ocs (oca 1 rfl) (ocn _))) ?_
 refine Jz 5 ?_
 refine Je1 results145 ?_
 rfl
structure Scp where
 Af:OA
 qf:Nat
 flags:List Fg
 Av:OA
 qv:Nat
 vars:List Vr
 Ap:OA
 qp:Nat
 ps:List ByteArray
abbrev jS(b:Nat)(S:Scp)(r:List Value):List Value:=pv b::vs S.Af S.flags S.qf::vs S.Av S.vars S.qv::vs S.Ap S.ps S.qp::r
def fdV(l:List Vr)(s:ByteArray):Option Vr:=l.find? (fun x:Vr=>decide (x.name=s))
def fdC(l:List Cm)(s:ByteArray):Option Cm:=l.find? (fun x:Cm=>decide (x.name=s))
structure Scp.Low(σ:Scp):Prop where
 f:σ.flags.length≤2
 v:σ.vars.length≤5
 p:σ.ps.length≤2
def Scp.Nm(σ:Scp)(s:ByteArray)(t:Nat):Prop:=((ixF s 0 σ.ps).isSome=true∧t=1)∨((ixF s 0 σ.ps).isSome=false∧∃v,fdV σ.vars s=some v∧v.ty≠3∧t=v.ty)∨((ixF s 0 σ.ps).isSome=false∧fdV σ.vars s=none∧(ixF s 0 (σ.flags.map Fg.name)).isSome=true∧t=2)
def Scp.Ch(σ:Scp)(s:ByteArray)(t:Nat):Prop:=(ixF s 0 σ.ps).isSome=false∧∃v,fdV σ.vars s=some v∧v.ty=t
structure OpT(σ:Scp)(o:Nat)(s:ByteArray)(u t:Nat):Prop where
 ar:1≤o∧o≤23∧u≤2∧t≤2∧(o=1∨o=4→t=1)∧(o=2∨o=3→t=2)∧(o=8→t=1)∧(o=16∨o=17→t=2)∧(o=10∨o=22∨o=23→u=2∧t=2)∧(18≤o∧o≤21→u=1∧t=2)∧(o=7→u=1∧t=2)∧(o=6∨o=9∨11≤o∧o≤15→u=1∧t=1)
 nm:o=5→σ.Nm s t
 tb:o=6∨o=7∨o=8→σ.Ch s 3
mutual
def PE.Ty(σ:Scp):PE→Nat→Prop
 |⟨o,s,_,l⟩,t=>∃u,Od σ l u∧(l.length=0→u=0)∧OpT σ o s u t
def Od(σ:Scp):List PE→Nat→Prop
 |[],_=>True
 |e::r,u=>PE.Ty σ e u∧Od σ r u
end
theorem kE{σ:Scp}:∀{l:List PE} {u:Nat},Od σ l u→∀x∈l,x.Ty σ u
 |[],_,_,x,h=>by cases h
 | e::r,u,h,x,hx=>by
   rcases aEi.1 hx with rfl|hx
   ·exact h.1
   ·exact kE h.2 x hx
theorem bW{σ:Scp}{u:Nat}:∀{l:List PE},(∀x∈l,x.Ty σ u)→Od σ l u
 |[],_=>trivial
 |e::r,h=>⟨h e (aEd ..),bW fun x hx=>h x (aEb _ hx)⟩
theorem nG{σ:Scp}{u:Nat}{l:List Ex}(h:Od σ (Cv l) u){x:Ex}(hx:x∈l):x.pure.Ty σ u:=kE h x.pure (by rw[Bz];exact aEv.2 ⟨x,hx,rfl⟩)
theorem MM{σ:Scp}{t:Nat}{e:Ex}(h:e.pure.Ty σ t):∃u,(Od σ (Cv e.args) u)∧(e.args.length=0→u=0)∧OpT σ e.op e.name u t:=by
 rw[Fu]at h
 obtain⟨u,h1,h2,h3⟩:=h
 exact⟨u,h1,fun h=>h2 (by rw[Bz,aEg];exact h),h3⟩
theorem BQ(σ:Scp)(hσ:σ.Low)(s:ByteArray)(t:Nat)(h:σ.Ch s t):
    Dz 224 [.agg #[vs σ.Af σ.flags σ.qf,vs σ.Av σ.vars σ.qv,vs σ.Ap σ.ps σ.qp], .string s] [ros Iy σ.Av σ.vars,ros aMb σ.Ap σ.ps] (fun v Γ'=>∃w:Vr,v= .tuple #[.agg (Iy w).toArray, .bool true]∧Γ'=[]∧w.ty=t):=by
 refine Am func224 ntmps224 fun w0=>?_
 refine Js (To.g (Jbo fun b2=>?_))
 refine Jal fun b4=>?_
 refine Jz 9 ?_
 refine Jvf (Tc σ.Ap σ.qp σ.ps s _ (by have:=hσ.p;omega) rfl) rfl (ocs (oca 3 rfl) (ocn _)) ?_
 refine Jn (Jt (Ed rfl (fun k9=>?_) (fun k9=>?_)))
 exact absurd (k9.symm.trans h.1) (by decide)
 refine Jz 7 ?_
 refine Jvf (fJ σ.Av σ.qv σ.vars s _ (by have:=hσ.v;omega) rfl) rfl (ocs (oca 2 rfl) (ocn _)) ?_
 refine Jz 7 ?_
 refine Lp [] rfl (.inl rfl) results224 rfl (i:=0) rfl QK rfl rfl ?_
 obtain⟨_,w,hw,ht⟩:=h;rw[show List.find? (fun x:Vr=>decide (x.name=s)) σ.vars=some w from hw];exact⟨w,rfl,rfl,ht⟩
theorem MN(σ:Scp)(hσ:σ.Low)(s:ByteArray)(t:Nat)(h:σ.Nm s t):
    Dz 230 [.agg #[vs σ.Af σ.flags σ.qf,vs σ.Av σ.vars σ.qv,vs σ.Ap σ.ps σ.qp], .string s] [ros Gx σ.Af σ.flags,ros Iy σ.Av σ.vars,ros aMb σ.Ap σ.ps] (fun v _=>v= .tuple #[.int .u8 ((t:Nat):Int),iv 0]):=by
 refine Am func230 ntmps230 fun w0=>?_
 refine Js (To.g (Jbo fun b2=>?_))
 refine Jz 10 ?_
 refine Jvf (Tc σ.Ap σ.qp σ.ps s _ (by have:=hσ.p;omega) rfl) rfl (ocs (oca 3 rfl) (ocn _)) ?_
 refine Jn (Jt (Ed rfl (fun k11=>?_) (fun k11=>?_)))
 refine Jz 8 ?_
 refine Gc (.inl rfl) results230 rfl rfl ?_
 unfold Scp.Nm fdV at h;generalize List.find? (fun x:Vr=>decide (x.name=s)) σ.vars=o2 at*;cases o2<;>simp_all<;>omega
 refine Jz 7 ?_
 refine Jvf (fJ σ.Av σ.qv σ.vars s _ (by have:=hσ.v;omega) rfl) rfl (ocs (oca 2 rfl) (ocn _)) ?_
 refine Jz 3 ?_
 refine Jal fun b6=>?_
 refine Jz 9 ?_
 refine JgB ?_ ?_<;>intro g21
 refine Jz 7 ?_
 refine Jcp rfl ?_ ?_<;>intro k19
 refine Jz 9 ?_
 refine Gc (.inl rfl) results230 rfl rfl ?_
 unfold Scp.Nm fdV at h;generalize List.find? (fun x:Vr=>decide (x.name=s)) σ.vars=o2 at*;cases o2<;>simp_all<;>omega
 refine Jz 6 ?_
 refine Ed rfl ?_ ?_<;>intro k26
 refine Jz 11 ?_
 refine Gc (.inl rfl) results230 rfl rfl ?_
 unfold Scp.Nm fdV at h;generalize List.find? (fun x:Vr=>decide (x.name=s)) σ.vars=o2 at*;cases o2<;>simp_all<;>omega
 refine Jz 5 ?_
 refine Jvf (Tx σ.Af σ.qf σ.flags s _ (by have:=hσ.f;omega) rfl) rfl (ocs (oca 2 rfl) (ocn _)) ?_
 refine Jz 3 ?_
 refine Ed rfl ?_ ?_<;>intro k30
 refine Jz 9 ?_
 refine Gc (.inl rfl) results230 rfl rfl ?_
 unfold Scp.Nm fdV at h;generalize List.find? (fun x:Vr=>decide (x.name=s)) σ.vars=o2 at*;cases o2<;>simp_all<;>omega
 refine Jz 10 ?_
 refine Gc (.inl rfl) results230 rfl rfl ?_
 unfold Scp.Nm fdV at h;generalize List.find? (fun x:Vr=>decide (x.name=s)) σ.vars=o2 at*;cases o2<;>simp_all<;>omega
 refine Jz 14 ?_
 refine Ed rfl ?_ ?_<;>intro k26
 refine Jz 11 ?_
 refine Gc (.inl rfl) results230 rfl rfl ?_
 unfold Scp.Nm fdV at h;generalize List.find? (fun x:Vr=>decide (x.name=s)) σ.vars=o2 at*;cases o2<;>simp_all<;>omega
 refine Jz 5 ?_
 refine Jvf (Tx σ.Af σ.qf σ.flags s _ (by have:=hσ.f;omega) rfl) rfl (ocs (oca 2 rfl) (ocn _)) ?_
 refine Jz 3 ?_
 refine Ed rfl ?_ ?_<;>intro k30
 refine Jz 9 ?_
 refine Gc (.inl rfl) results230 rfl rfl ?_
 unfold Scp.Nm fdV at h;generalize List.find? (fun x:Vr=>decide (x.name=s)) σ.vars=o2 at*;cases o2<;>simp_all<;>omega
 refine Jz 10 ?_
 refine Gc (.inl rfl) results230 rfl rfl ?_
 unfold Scp.Nm fdV at h;generalize List.find? (fun x:Vr=>decide (x.name=s)) σ.vars=o2 at*;cases o2<;>simp_all<;>omega
theorem bX(σ:Scp)(hσ:σ.Low)(s:ByteArray)(h:σ.Ch s 3):
    Dz 232 [.agg #[vs σ.Af σ.flags σ.qf,vs σ.Av σ.vars σ.qv,vs σ.Ap σ.ps σ.qp], .string s] [ros Iy σ.Av σ.vars,ros aMb σ.Ap σ.ps] (fun v _=>v=iv 0):=by
 refine Am func232 ntmps232 fun w0=>?_
 refine Js (To.g (Jbo fun b2=>?_))
 refine Jz 7 ?_
 refine Jqf (BQ σ hσ s _ h) rfl (ocs (oca 1 rfl) (ocs (oca 2 rfl) (ocn _))) ?_
 rintro _ _ ⟨w,rfl,rfl,hw⟩
 refine⟨rfl,?_⟩
 refine Jz 3 ?_
 refine Jal fun b5=>?_
 refine Jz 18 ?_
 refine Jr (Cr (v':= .bool false) (congrArg Value.bool (aEo om)) (Rd.neq rfl rfl rfl)) ?_
 refine Jz 13 ?_
 refine Je1 results232 ?_
 rfl
theorem Xb(σ:Scp)(s:ByteArray)(t:Nat):
    Dz 231 [.agg #[vs σ.Af σ.flags σ.qf,vs σ.Av σ.vars σ.qv,vs σ.Ap σ.ps σ.qp], .int .u8 ((t:Nat):Int), .string s,iv 0] [] (fun v _=>v= .tuple #[.int .u8 ((t:Nat):Int), .string nE,iv 0]):=by
 refine Am func231 ntmps231 fun w0=>?_
 refine Js (To.g (Jbo fun b4=>?_))
 refine Jz 24 ?_
 refine Vk (.inl rfl) results231 rfl rfl rfl ?_
 rfl
theorem yG(σ:Scp)(A:OA)(q:Nat)(l:List Ex)(u:Nat)(ih:∀x∈l,∀t:Nat,x.pure.low→x.pure.Ty σ t→Dz 225 [.agg #[vs σ.Af σ.flags σ.qf,vs σ.Av σ.vars σ.qv,vs σ.Ap σ.ps σ.qp], .agg (Bw x).toArray] [all (x.kids Bw),ros Gx σ.Af σ.flags,ros Iy σ.Av σ.vars,ros aMb σ.Ap σ.ps] (fun v Γ'=>v= .tuple #[.int .u8 ((t:Nat):Int), .string nE,iv 0]∧Γ'=[]))(hl:l.length≤12)(hlow:Kk (Cv l))(hty:Od σ (Cv l) u)(hu0:l.length=0→u=0):
    Dz 229 [.agg #[vs σ.Af σ.flags σ.qf,vs σ.Av σ.vars σ.qv,vs σ.Ap σ.ps σ.qp],vs A l q] [all (lsF Bw A l),ros Gx σ.Af σ.flags,ros Iy σ.Av σ.vars,ros aMb σ.Ap σ.ps] (fun v Γ'=>v= .tuple #[.int .u8 ((u:Nat):Int), .string nE,iv 0]∧Γ'=[]):=by
 refine Am func229 ntmps229 fun w0=>?_
 refine Js (To.g (Jbo fun b2=>?_))
 refine Jz 12 ?_
 refine To.one 1 rfl (ros Bw A l) rfl (aEd ..) (Jz 7 ?_)
 refine Cw (fun s g mz ρ Γ=>∃(tk:Nat) (k:Nat),ρ=[s 2,(4, .int .u8 ((tk:Nat):Int)),s 7,s 13,s 14,(15,nv k)]∧Γ=[g 1,g 0,g 2,g 3,g 4,g 5]∧mz=l.length-k∧(k≤l.length)∧(k=0→tk=0)∧(0<k→tk=u)) ⟨⟨0,0,rfl,rfl,rfl,om,(fun _=>rfl),(fun h=>absurd h (by decide))⟩,sb⟩ ?_
 rintro mz _ _ ⟨tk,k,rfl,rfl,rfl,hk,hk0,hk1⟩
 refine Jz 6 ?_
 refine Jcp rfl ?_ ?_<;>intro c16
 obtain⟨x,hx⟩:=exg l k om
 refine Jz 9 ?_
 refine Jal fun b9=>?_
 refine Jz 5 ?_
 refine Db 3 rfl (x.kids Bw) (Ex.lax Bw x) (Yo hx) (Jz 3 ?_)
 refine Jqf (ih x (mog hx) u (Ob hlow (mog hx)) (nG hty (mog hx))) (by show owns (x.kids Bw)++[]=[];rw[(Ex.lax Bw x).owns];rfl) (ocs (oca 0 rfl) (ocs (oca 5 rfl) (ocs (oca 6 rfl) (ocs (oca 7 rfl) (ocn _))))) ?_
 rintro _ _ ⟨rfl,rfl⟩
 refine⟨rfl,?_⟩
 refine Jz 26 ?_
 refine Jcp rfl ?_ ?_<;>intro c32
 refine Jz 10 ?_
 refine Jr (Cr (v':= .bool true) (congrArg Value.bool (aEk om)) (Rd.eql rfl rfl rfl)) ?_
 refine Jz 10 ?_
 refine Cg ⟨⟨u,k+1,rfl,rfl,rfl,om,(fun h=>by omega),(fun _=>by omega)⟩,sb⟩
 refine Jz 7 ?_
 refine Jr (Cr (v':= .bool true) (congrArg Value.bool (aEk om)) (Rd.eql rfl rfl rfl)) ?_
 refine Jz 10 ?_
 refine Cg ⟨⟨tk,k+1,rfl,rfl,rfl,om,(fun h=>by omega),(fun _=>by omega)⟩,sb⟩
 refine Jz 24 ?_
 refine Iu (Er (Dl (Cu (Df (Du (Vk (.inl rfl) results229 rfl rfl rfl ?_))))))
 obtain rfl:tk=u:=om
 exact⟨rfl,rfl⟩
theorem uL(σ:Scp)(hσ:σ.Low)(e:Ex)(τ u:Nat)(ih:∀x∈e.args,∀t:Nat,x.pure.low→x.pure.Ty σ t→Dz 225 [.agg #[vs σ.Af σ.flags σ.qf,vs σ.Av σ.vars σ.qv,vs σ.Ap σ.ps σ.qp], .agg (Bw x).toArray] [all (x.kids Bw),ros Gx σ.Af σ.flags,ros Iy σ.Av σ.vars,ros aMb σ.Ap σ.ps] (fun v Γ'=>v= .tuple #[.int .u8 ((t:Nat):Int), .string nE,iv 0]∧Γ'=[]))(hal:e.args.length≤2)(hlA:Kk (Cv e.args))(hty:Od σ (Cv e.args) u)(hu0:e.args.length=0→u=0)(hop:OpT σ e.op e.name u τ):
    Dz 225 [.agg #[vs σ.Af σ.flags σ.qf,vs σ.Av σ.vars σ.qv,vs σ.Ap σ.ps σ.qp], .agg (Bw e).toArray] [all (e.kids Bw),ros Gx σ.Af σ.flags,ros Iy σ.Av σ.vars,ros aMb σ.Ap σ.ps] (fun v Γ'=>v= .tuple #[.int .u8 ((τ:Nat):Int), .string nE,iv 0]∧Γ'=[]):=by
 obtain⟨har,hnm,htb⟩:=hop
 refine Am func225 ntmps225 fun w0=>?_
 refine Js (To.g (Jbo fun b2=>?_))
 refine Jbo fun b3=>?_
 refine Jz 6 ?_
 refine Db 2 rfl (lsF Bw e.A e.args) (Ma _ _ _) (fun c hc=>by rw[Lg];exact hc) (Jz 4 ?_)
 refine Jqf (yG σ e.A e.q e.args u ih om hlA hty hu0) (by show owns (lsF Bw e.A e.args)++[]=[];rw[(Ma Bw e.A e.args).owns];rfl) (ocs (oca 0 rfl) (ocs (oca 4 rfl) (ocs (oca 5 rfl) (ocs (oca 6 rfl) (ocn _))))) ?_
 rintro _ _ ⟨rfl,rfl⟩
 refine⟨rfl,?_⟩
 refine Jz 32 ?_
 refine Ru (T:=(Nat)×(Nat)) (fun t=>([(2,pv b2),(3,pv b3),(4, .int .u8 ((u:Nat):Int)),(7, .int .u8 (((t.1):Nat):Int)),(8, .int .u8 (((t.2):Nat):Int))],[box b2 [vs σ.Af σ.flags σ.qf,vs σ.Av σ.vars σ.qv,vs σ.Ap σ.ps σ.qp] 339,box b3 (Bw e) 249,ros Gx σ.Af σ.flags,ros Iy σ.Av σ.vars,ros aMb σ.Ap σ.ps])) (fun t=>((t.1)=u)∧((t.2)=τ)) ?_ ?_
 refine Jz 8 ?_
 refine Jcp rfl ?_ ?_<;>intro k23
 refine Jsp (Jt (Gm (congrArg (fun b=>some (Value.bool b)) (aEk k23)) (Jz 10 ?_)))
 refine Lj (Iu (Er (Dl (Cu (Df (Du (Vk (.inl rfl) results225 rfl rfl rfl ?_)))))))
 obtain rfl:τ=1:=om
 exact⟨rfl,rfl⟩
 refine Jz 5 ?_
 refine Jcp rfl ?_ ?_<;>intro k23_2
 refine Jz 10 ?_
 refine Lj (Iu (Er (Dl (Cu (Df (Du (Vk (.inl rfl) results225 rfl rfl rfl ?_)))))))
 obtain rfl:τ=1:=om
 exact⟨rfl,rfl⟩
 refine Jz 7 ?_
 refine Jcp rfl ?_ ?_<;>intro k26
 refine Jsp (Jt (Gm (congrArg (fun b=>some (Value.bool b)) (aEk k26)) (Jz 10 ?_)))
 refine Lj (Iu (Er (Dl (Cu (Df (Du (Vk (.inl rfl) results225 rfl rfl rfl ?_)))))))
 obtain rfl:τ=2:=om
 exact⟨rfl,rfl⟩
 refine Jz 5 ?_
 refine Jcp rfl ?_ ?_<;>intro k26_2
 refine Jz 10 ?_
 refine Lj (Iu (Er (Dl (Cu (Df (Du (Vk (.inl rfl) results225 rfl rfl rfl ?_)))))))
 obtain rfl:τ=2:=om
 exact⟨rfl,rfl⟩
 refine Jz 6 ?_
 refine Jcp rfl ?_ ?_<;>intro k29
 refine Jz 5 ?_
 refine Jvf (MN σ hσ e.name τ (hnm om)) rfl (ocs (oca 4 rfl) (ocs (oca 5 rfl) (ocs (oca 6 rfl) (ocn _)))) ?_
 refine Jz 14 ?_
 refine Jvf (Xb σ e.name τ) rfl (ocn _) ?_
 refine Jz 11 ?_
 refine Lj (Iu (Er (Dl (Cu (Df (Du (Vk (.inl rfl) results225 rfl rfl rfl ?_)))))))
 exact⟨rfl,rfl⟩
 refine Jz 6 ?_
 refine Jcp rfl ?_ ?_<;>intro k47
 refine Js (Jfw [] [1,4,103,105,306,100,102,307,8,9,10,11,12,13] (ocn _) ?_)
 refine Jz 4 ?_
 refine Fw.qf (bX σ hσ e.name (htb om)) (ocs (oca 5 rfl) (ocs (oca 6 rfl) (ocn _))) ?_
 refine Jz 2 ?_
 refine Fw.qf (Xb σ e.name 1) (ocn _) ?_
 refine Jz 11 ?_
 refine Lj (Iu (Er (Dl (Cu (Df (Du (Vk (.inl rfl) results225 rfl rfl rfl ?_)))))))
 obtain rfl:τ=1:=om
 exact⟨rfl,rfl⟩
 refine Jz 7 ?_
 refine Jcp rfl ?_ ?_<;>intro k60
 refine Jsp (Jt (Gm (congrArg (fun b=>some (Value.bool b)) (aEk k60)) (Jz 7 ?_)))
 refine Lv (u,2) ⟨om,om⟩
 refine Jz 5 ?_
 refine Jcp rfl ?_ ?_<;>intro k60_2
 refine Jz 7 ?_
 refine Lv (u,2) ⟨om,om⟩
 refine Jz 7 ?_
 refine Jcp rfl ?_ ?_<;>intro k64
 refine Jsp (Jt (Gm (congrArg (fun b=>some (Value.bool b)) (aEk k64)) (Jz 6 ?_)))
 refine Lv (2,2) ⟨om,om⟩
 refine Jz 6 ?_
 refine Jcp rfl ?_ ?_<;>intro k64_2
 refine Jsp (Jt (Gm (congrArg (fun b=>some (Value.bool b)) (aEk k64_2)) (Jz 6 ?_)))
 refine Lv (2,2) ⟨om,om⟩
 refine Jz 5 ?_
 refine Jcp rfl ?_ ?_<;>intro k64_3
 refine Jz 6 ?_
 refine Lv (2,2) ⟨om,om⟩
 refine Jz 7 ?_
 refine Jcp rfl ?_ ?_<;>intro k68
 refine Jsp (Jt (Gm (congrArg (fun b=>some (Value.bool b)) (aEk k68)) (Jz 5 ?_)))
 refine Lv (1,2) ⟨om,om⟩
 refine Jz 6 ?_
 refine Jcp rfl ?_ ?_<;>intro k68_2
 refine Jsp (Jt (Gm (congrArg (fun b=>some (Value.bool b)) (aEk k68_2)) (Jz 5 ?_)))
 refine Lv (1,2) ⟨om,om⟩
 refine Jz 6 ?_
 refine Jcp rfl ?_ ?_<;>intro k68_3
 refine Jsp (Jt (Gm (congrArg (fun b=>some (Value.bool b)) (aEk k68_3)) (Jz 5 ?_)))
 refine Lv (1,2) ⟨om,om⟩
 refine Jz 6 ?_
 refine Jcp rfl ?_ ?_<;>intro k68_4
 refine Jsp (Jt (Gm (congrArg (fun b=>some (Value.bool b)) (aEk k68_4)) (Jz 5 ?_)))
 refine Lv (1,2) ⟨om,om⟩
 refine Jz 5 ?_
 refine Jcp rfl ?_ ?_<;>intro k68_5
 refine Jz 5 ?_
 refine Lv (1,2) ⟨om,om⟩
 refine Jz 3 ?_
 refine Lv (1,1) ⟨om,om⟩
 rintro⟨nd,rs⟩ ⟨hnd,hrs⟩
 replace hnd:nd=u:=hnd
 replace hrs:rs=τ:=hrs
 dsimp only
 refine Jz 5 ?_
 refine Jr (Cr (v':= .bool false) (congrArg Value.bool (aEo om)) (Rd.neq rfl rfl rfl)) ?_
 refine Jz 11 ?_
 refine JgP ?_ ?_<;>intro g80
 refine Jz 8 ?_
 refine Jfw [] [1,2,5,104,106,307,100,103,308,9,10,11,12,13,14] (ocn _) ?_
 refine Jz 5 ?_
 refine Fw.qf (bX σ hσ e.name (htb om)) (ocs (oca 3 rfl) (ocs (oca 4 rfl) (ocn _))) ?_
 refine Jz 2 ?_
 refine Fw.qf (Xb σ e.name rs) (ocn _) ?_
 refine Jz 10 ?_
 refine Er (Dl (Cu (Df (Du (Vk (.inl rfl) results225 rfl rfl rfl ?_)))))
 subst hrs
 exact⟨rfl,rfl⟩
 refine Jz 6 ?_
 refine Jcp rfl ?_ ?_<;>intro k84
 refine Js (Jfw [] [1,2,5,104,106,307,100,103,308,9,10,11,12,13,14] (ocn _) ?_)
 refine Jz 5 ?_
 refine Fw.qf (bX σ hσ e.name (htb om)) (ocs (oca 3 rfl) (ocs (oca 4 rfl) (ocn _))) ?_
 refine Jz 2 ?_
 refine Fw.qf (Xb σ e.name rs) (ocn _) ?_
 refine Jz 10 ?_
 refine Er (Dl (Cu (Df (Du (Vk (.inl rfl) results225 rfl rfl rfl ?_)))))
 subst hrs
 exact⟨rfl,rfl⟩
 refine Jz 11 ?_
 refine Er (Dl (Cu (Df (Du (Vk (.inl rfl) results225 rfl rfl rfl ?_)))))
 subst hrs
 exact⟨rfl,rfl⟩
theorem nH(σ:Scp)(hσ:σ.Low):∀e:Ex,∀t:Nat,e.pure.low→e.pure.Ty σ t→Dz 225 [.agg #[vs σ.Af σ.flags σ.qf,vs σ.Av σ.vars σ.qv,vs σ.Ap σ.ps σ.qp], .agg (Bw e).toArray] [all (e.kids Bw),ros Gx σ.Af σ.flags,ros Iy σ.Av σ.vars,ros aMb σ.Ap σ.ps] (fun v Γ'=>v= .tuple #[.int .u8 ((t:Nat):Int), .string nE,iv 0]∧Γ'=[])
 | e,t,h1,h2=>by
   obtain⟨u,a,b,c⟩:=MM h2
   exact uL σ hσ e t u (fun x hx=>nH σ hσ x) (Tw h1).2 (Un fun x hx=>by rw[Bz]at hx;obtain⟨y,hy,rfl⟩:=aEv.1 hx;exact Qf h1 hy) a b c
termination_by e=>SizeOf.sizeOf e
decreasing_by
 cases e with
 | mk op s n A q l=>
   have:=aFq (show x∈l from hx)
   simp only[Ex.mk.sizeOf_spec]
   omega
end Go.Proofs.YtlihklladkagpaaGreatDoor

/- Own text. -/
import Derived.Test.YtihgdnjkofpgiaaGreatDoorL2
import Derived.ChangeKeysEq
import Derived.ArgAppend
import Derived.Lib.AppendZeros
import Derived.RangeFuncIn
import Derived.RangeFuncRecord
import Derived.RangeFuncLeaves
import Derived.OrdersIn
import Derived.TacticsIn
set_option linter.unusedVariables false
set_option linter.unusedSimpArgs false
namespace Go.Sep
open Go.RowKit Go.Flow Go.Mem
section
variable{P:Program}{o:Oper}{ρ:Bj}{Γ:List Ad}{x y:Operand}
structure aNn(P:Program)(K:TypeId):Prop where
 und:∃e i,P.underlying K=some (.array 2 e)∧P.underlying e=some (.int .i64)∧P.info? e=some i∧P.cellsOf e=1
 guard:P.eqGuardType P.depth K=false
end
theorem pU{zs:List Value}{s:Nat}(hs:zs.length=s)(hp:0<s):∀(n k:Nat),(List.replicate n zs).flatten[k]?=if k<n*s then zs[k%s]? else none
 |0,k=>by simp
 | n +1,k=>by
   rw[List.replicate_succ,List.flatten_cons,List.getElem?_append,hs];split
   · rename_i h
     rw[aOn (by rw[Nat.add_mul,Nat.one_mul];omega),Nat.mod_eq_of_lt h]
   · rename_i h
     rw[pU hs hp n (k-s),Nat.add_mul,Nat.one_mul];have e:(k-s)%s=k%s:=by
      conv=>rhs;rw[show k=(k-s)+s by omega,Nat.add_mod_right]
     by_cases h2:k-s<n*s
     ·rw[aOn h2,aOn om,e]
     ·rw[aNy h2,aNy om]
theorem Vt(zs:List Value)(n s:Nat)(hs:zs.length=s)(hp:0<s):(madeCells zs.toArray (n*s)).toList=(List.replicate n zs).flatten:=by
 apply List.ext_getElem?;intro k;rw[pU hs hp];unfold madeCells;by_cases hk:k<n*s
 · have h1:k%s<zs.length:=by rw[hs];exact Nat.mod_lt _ hp
   simp only[List.size_toArray,Array.toList_map,Array.toList_range,aOf,List.getElem?_range hk,Option.map_some,hs,aOn hk];rw[gge h1];simp[h1]
 ·simp[hk]
section
variable{P:Program}{o:Oper}{ρ:Bj}{Γ:List Ad}{x y:Operand}{t:TypeId}
theorem Mv{α:Type}{enc:α→List Value}{z:α}{e:TypeId}{bytes n size:Nat}{kl kc:IntKind}(hz:(enc z).length=size)(hp:0<size)(ho:o.op= .makeSlice t x y)(ht:Ce P t e size bytes (enc z))(hx:ev ρ x=some (.int kl (n:Int)))(hy:ev ρ y=some (.int kc (n:Int)))(hb:bytes*n≤281474976710656)(hc:n≤maxLen):
    Mk P o ρ Γ (fun v N=>∃b,v= .slice (some ⟨b,0,none⟩) (List.replicate n z).length n∧N=[rows enc e size (some ⟨b,0,none⟩) n (List.replicate n z)]):=by
 have h:=kH (P:=P) (Γ:=Γ) ho ht hx hy hb hc;intro a w ha hs;obtain⟨v,N,w',h1,⟨b,h2,h3⟩,h4⟩:=h a w ha hs;refine⟨v,N,w',h1,⟨b,by rw[h2,aPc],?_⟩,h4⟩;rw[h3,Vt _ n size hz hp];unfold rows;rw[aPc];rw[List.flatMap_def,List.map_replicate]
end
variable{C:Cx}{ρ:Bj}{K:Act→World→Prop}{Γ:List Ad}{c:Ad}
theorem Kj{c0:Ad}(k:To C ρ (c::c0::Γ) K):To C ρ (c0::c::Γ) K:=bz (aOl (l₁:=[c0])) k
theorem Ig{c0 c1:Ad}(k:To C ρ (c::c0::c1::Γ) K):To C ρ (c0::c1::c::Γ) K:=bz (aOl (l₁:=[c0,c1])) k
theorem Fj{c0 c1 c2:Ad}(k:To C ρ (c::c0::c1::c2::Γ) K):To C ρ (c0::c1::c2::c::Γ) K:=bz (aOl (l₁:=[c0,c1,c2])) k
theorem Nj{c0 c1 c2 c3:Ad}(k:To C ρ (c::c0::c1::c2::c3::Γ) K):To C ρ (c0::c1::c2::c3::c::Γ) K:=bz (aOl (l₁:=[c0,c1,c2,c3])) k
theorem Mw{c0 c1 c2 c3 c4:Ad}(k:To C ρ (c::c0::c1::c2::c3::c4::Γ) K):To C ρ (c0::c1::c2::c3::c4::c::Γ) K:=bz (aOl (l₁:=[c0,c1,c2,c3,c4])) k
theorem kM{c0 c1 c2 c3 c4 c5:Ad}(k:To C ρ (c::c0::c1::c2::c3::c4::c5::Γ) K):To C ρ (c0::c1::c2::c3::c4::c5::c::Γ) K:=bz (aOl (l₁:=[c0,c1,c2,c3,c4,c5])) k
theorem Zb{c0 c1 c2 c3 c4 c5 c6:Ad}(k:To C ρ (c::c0::c1::c2::c3::c4::c5::c6::Γ) K):To C ρ (c0::c1::c2::c3::c4::c5::c6::c::Γ) K:=bz (aOl (l₁:=[c0,c1,c2,c3,c4,c5,c6])) k
theorem aHx{c0 c1 c2 c3 c4 c5 c6 c7:Ad}(k:To C ρ (c::c0::c1::c2::c3::c4::c5::c6::c7::Γ) K):To C ρ (c0::c1::c2::c3::c4::c5::c6::c7::c::Γ) K:=bz (aOl (l₁:=[c0,c1,c2,c3,c4,c5,c6,c7])) k
theorem aEr{c0 c1 c2 c3 c4 c5 c6 c7 c8:Ad}(k:To C ρ (c::c0::c1::c2::c3::c4::c5::c6::c7::c8::Γ) K):To C ρ (c0::c1::c2::c3::c4::c5::c6::c7::c8::c::Γ) K:=bz (aOl (l₁:=[c0,c1,c2,c3,c4,c5,c6,c7,c8])) k
theorem kN{c0 c1 c2 c3 c4 c5 c6 c7 c8 c9:Ad}(k:To C ρ (c::c0::c1::c2::c3::c4::c5::c6::c7::c8::c9::Γ) K):To C ρ (c0::c1::c2::c3::c4::c5::c6::c7::c8::c9::c::Γ) K:=bz (aOl (l₁:=[c0,c1,c2,c3,c4,c5,c6,c7,c8,c9])) k
theorem Qu{c0 c1 c2 c3 c4 c5 c6 c7 c8 c9 c10:Ad}(k:To C ρ (c::c0::c1::c2::c3::c4::c5::c6::c7::c8::c9::c10::Γ) K):To C ρ (c0::c1::c2::c3::c4::c5::c6::c7::c8::c9::c10::c::Γ) K:=bz (aOl (l₁:=[c0,c1,c2,c3,c4,c5,c6,c7,c8,c9,c10])) k
theorem aDa{c0 c1 c2 c3 c4 c5 c6 c7 c8 c9 c10 c11:Ad}(k:To C ρ (c::c0::c1::c2::c3::c4::c5::c6::c7::c8::c9::c10::c11::Γ) K):To C ρ (c0::c1::c2::c3::c4::c5::c6::c7::c8::c9::c10::c11::c::Γ) K:=bz (aOl (l₁:=[c0,c1,c2,c3,c4,c5,c6,c7,c8,c9,c10,c11])) k
theorem QN{c0 c1 c2 c3 c4 c5 c6 c7 c8 c9 c10 c11 c12:Ad}(k:To C ρ (c::c0::c1::c2::c3::c4::c5::c6::c7::c8::c9::c10::c11::c12::Γ) K):To C ρ (c0::c1::c2::c3::c4::c5::c6::c7::c8::c9::c10::c11::c12::c::Γ) K:=bz (aOl (l₁:=[c0,c1,c2,c3,c4,c5,c6,c7,c8,c9,c10,c11,c12])) k
theorem GV{c0 c1 c2 c3 c4 c5 c6 c7 c8 c9 c10 c11 c12 c13:Ad}(k:To C ρ (c::c0::c1::c2::c3::c4::c5::c6::c7::c8::c9::c10::c11::c12::c13::Γ) K):To C ρ (c0::c1::c2::c3::c4::c5::c6::c7::c8::c9::c10::c11::c12::c13::c::Γ) K:=bz (aOl (l₁:=[c0,c1,c2,c3,c4,c5,c6,c7,c8,c9,c10,c11,c12,c13])) k
theorem pV{c0 c1 c2 c3 c4 c5 c6 c7 c8 c9 c10 c11 c12 c13 c14:Ad}(k:To C ρ (c::c0::c1::c2::c3::c4::c5::c6::c7::c8::c9::c10::c11::c12::c13::c14::Γ) K):To C ρ (c0::c1::c2::c3::c4::c5::c6::c7::c8::c9::c10::c11::c12::c13::c14::c::Γ) K:=bz (aOl (l₁:=[c0,c1,c2,c3,c4,c5,c6,c7,c8,c9,c10,c11,c12,c13,c14])) k
theorem QO{c0 c1 c2 c3 c4 c5 c6 c7 c8 c9 c10 c11 c12 c13 c14 c15:Ad}(k:To C ρ (c::c0::c1::c2::c3::c4::c5::c6::c7::c8::c9::c10::c11::c12::c13::c14::c15::Γ) K):To C ρ (c0::c1::c2::c3::c4::c5::c6::c7::c8::c9::c10::c11::c12::c13::c14::c15::c::Γ) K:=bz (aOl (l₁:=[c0,c1,c2,c3,c4,c5,c6,c7,c8,c9,c10,c11,c12,c13,c14,c15])) k
theorem GX{c0 c1 c2 c3 c4 c5 c6 c7 c8 c9 c10 c11 c12 c13 c14 c15 c16 c17:Ad}(k:To C ρ (c::c0::c1::c2::c3::c4::c5::c6::c7::c8::c9::c10::c11::c12::c13::c14::c15::c16::c17::Γ) K):To C ρ (c0::c1::c2::c3::c4::c5::c6::c7::c8::c9::c10::c11::c12::c13::c14::c15::c16::c17::c::Γ) K:=bz (aOl (l₁:=[c0,c1,c2,c3,c4,c5,c6,c7,c8,c9,c10,c11,c12,c13,c14,c15,c16,c17])) k
theorem wJ{c0 c1 c2 c3 c4 c5 c6 c7 c8 c9 c10 c11 c12 c13 c14 c15 c16 c17 c18:Ad}(k:To C ρ (c::c0::c1::c2::c3::c4::c5::c6::c7::c8::c9::c10::c11::c12::c13::c14::c15::c16::c17::c18::Γ) K):To C ρ (c0::c1::c2::c3::c4::c5::c6::c7::c8::c9::c10::c11::c12::c13::c14::c15::c16::c17::c18::c::Γ) K:=bz (aOl (l₁:=[c0,c1,c2,c3,c4,c5,c6,c7,c8,c9,c10,c11,c12,c13,c14,c15,c16,c17,c18])) k
theorem aDb{c0 c1 c2 c3 c4 c5 c6 c7 c8 c9 c10 c11 c12 c13 c14 c15 c16 c17 c18 c19 c20:Ad}(k:To C ρ (c::c0::c1::c2::c3::c4::c5::c6::c7::c8::c9::c10::c11::c12::c13::c14::c15::c16::c17::c18::c19::c20::Γ) K):To C ρ (c0::c1::c2::c3::c4::c5::c6::c7::c8::c9::c10::c11::c12::c13::c14::c15::c16::c17::c18::c19::c20::c::Γ) K:=bz (aOl (l₁:=[c0,c1,c2,c3,c4,c5,c6,c7,c8,c9,c10,c11,c12,c13,c14,c15,c16,c17,c18,c19,c20])) k
theorem Cg(k:To C ρ (Γ) K):To C ρ (c::Γ) K:=bz (aOl (l₁:=[])) (bz (aPa (l₁:=[c])) (To.drop k))
theorem Ci{c0:Ad}(k:To C ρ (c0::Γ) K):To C ρ (c0::c::Γ) K:=bz (aOl (l₁:=[c0])) (bz (aPa (l₁:=[c])) (To.drop k))
theorem Cb{c0 c1:Ad}(k:To C ρ (c0::c1::Γ) K):To C ρ (c0::c1::c::Γ) K:=bz (aOl (l₁:=[c0,c1])) (bz (aPa (l₁:=[c])) (To.drop k))
theorem Cr{c0 c1 c2:Ad}(k:To C ρ (c0::c1::c2::Γ) K):To C ρ (c0::c1::c2::c::Γ) K:=bz (aOl (l₁:=[c0,c1,c2])) (bz (aPa (l₁:=[c])) (To.drop k))
theorem Df{c0 c1 c2 c3:Ad}(k:To C ρ (c0::c1::c2::c3::Γ) K):To C ρ (c0::c1::c2::c3::c::Γ) K:=bz (aOl (l₁:=[c0,c1,c2,c3])) (bz (aPa (l₁:=[c])) (To.drop k))
theorem Gl{c0 c1 c2 c3 c4:Ad}(k:To C ρ (c0::c1::c2::c3::c4::Γ) K):To C ρ (c0::c1::c2::c3::c4::c::Γ) K:=bz (aOl (l₁:=[c0,c1,c2,c3,c4])) (bz (aPa (l₁:=[c])) (To.drop k))
theorem Jq{c0 c1 c2 c3 c4 c5:Ad}(k:To C ρ (c0::c1::c2::c3::c4::c5::Γ) K):To C ρ (c0::c1::c2::c3::c4::c5::c::Γ) K:=bz (aOl (l₁:=[c0,c1,c2,c3,c4,c5])) (bz (aPa (l₁:=[c])) (To.drop k))
theorem Wu{c0 c1 c2 c3 c4 c5 c6:Ad}(k:To C ρ (c0::c1::c2::c3::c4::c5::c6::Γ) K):To C ρ (c0::c1::c2::c3::c4::c5::c6::c::Γ) K:=bz (aOl (l₁:=[c0,c1,c2,c3,c4,c5,c6])) (bz (aPa (l₁:=[c])) (To.drop k))
theorem pW{c0 c1 c2 c3 c4 c5 c6 c7:Ad}(k:To C ρ (c0::c1::c2::c3::c4::c5::c6::c7::Γ) K):To C ρ (c0::c1::c2::c3::c4::c5::c6::c7::c::Γ) K:=bz (aOl (l₁:=[c0,c1,c2,c3,c4,c5,c6,c7])) (bz (aPa (l₁:=[c])) (To.drop k))
class Bx(Γ:List Ad)(b:Nat)(i:outParam Nat)(cs:outParam (List Value))(t:outParam Nat):Prop where h:Γ[i]?=some (box b cs t)
instance Bx.s{Γ:List Ad}{c:Ad}{b i t:Nat}{cs:List Value} [h:Bx Γ b i cs t]:Bx (c::Γ) b (i+1) cs t:=⟨h.h⟩
instance Bx.o{Γ:List Ad}{b t:Nat}{cs:List Value}:Bx (box b cs t::Γ) b 0 cs t:=⟨rfl⟩
class Ro(Γ:List Ad)(A:OA)(α:outParam Type)(enc:outParam (α→List Value))(l:outParam (List α)):Prop where h:∃i:Nat,Γ[i]?=some (ros enc A l)
instance Ro.s{Γ:List Ad}{c:Ad}{A:OA}{α:Type}{enc:α→List Value}{l:List α} [h:Ro Γ A α enc l]:Ro (c::Γ) A α enc l:=⟨h.h.elim fun i h=>⟨i+1,h⟩⟩
instance Ro.o{Γ:List Ad}{A:OA}{α:Type}{enc:α→List Value}{l:List α}:Ro (ros enc A l::Γ) A α enc l:=⟨0,rfl⟩
class Rr(Γ:List Ad)(A:OA)(α:outParam Type)(enc:outParam (α→List Value))(e size cap:outParam Nat)(l:outParam (List α)):Prop where h:∃i:Nat,Γ[i]?=some (rows enc e size A cap l)
instance Rr.s{Γ:List Ad}{c:Ad}{A:OA}{α:Type}{enc:α→List Value}{e size cap:Nat}{l:List α} [h:Rr Γ A α enc e size cap l]:Rr (c::Γ) A α enc e size cap l:=⟨h.h.elim fun i h=>⟨i+1,h⟩⟩
instance Rr.o{Γ:List Ad}{A:OA}{α:Type}{enc:α→List Value}{e size cap:Nat}{l:List α}:Rr (rows enc e size A cap l::Γ) A α enc e size cap l:=⟨0,rfl⟩
theorem kP:flat []=[]:=rfl
theorem kQ{i:Nat}{c:List Ad}{N:News}:flat ((i,c)::N)=c++flat N:=rfl
theorem Zq{d:List Nat}:avail [] d=[]:=rfl
theorem Zt{i:Nat}{c:List Ad}{N:News}{d:List Nat}:avail ((i,c)::N) d=(bif d.any (Nat.beq i)then c else [])++avail N d:=rfl
theorem nrm{α:Sort _}{a b:α}(h:a=b:=by(try dsimp only[List.set,List.eraseIdx,List.cons_append,List.nil_append,kP,kQ,Zq,Zt,List.any,Nat.beq,cond,Bool.or]);(try exact rfl)):a=b:=h
section
variable{P:Program}{o:Oper}{ρ:Bj}{Γ Γ':List Ad}{x y z:Operand}{u v:Value}
theorem QP{ty b off i t:Nat}{cs:List Value}(ho:o.op= .load ty x)(hx:ev ρ x=some (.pointer (some ⟨b,off,none⟩))) [ht:Ca P ty] [hi:Bx Γ b i cs t](hu:cs[off]?=some v:=by rfl):Rd P o ρ Γ v:=Cq ho hx ht hi.h (bg1 hu)
theorem CG{ty b i t n:Nat}{cs:List Value}(ho:o.op= .load ty x)(hx:ev ρ x=some (pv b)) [ht:Ff P ty n] [hi:Bx Γ b i cs t](hu:cs.length=n:=by rfl):Rd P o ρ Γ (.agg cs.toArray):=Qc ho hx ht hi.h Yf hu
section
variable{α:Type}{enc:α→List Value}{size t e bytes cap j ty f:Nat}{zs:List Value}{A:OA}{l:List α}{k:IntKind}{el:α}
theorem CJ(ho:o.op= .indexAddr t x y)(hx:ev ρ x=some (.slice A l.length cap))(hy:ev ρ y=some (.int k j)) [ht:Ce P t e size bytes zs] [hr:Ro Γ A α enc l] [hE:Enc enc size](hj:l[j]?=some el:=by assumption):Rd P o ρ Γ (.pointer (some ⟨blk A,ofs A+j*size,none⟩)):=by
 obtain⟨i,hi⟩:=hr.h;exact aEn hE ho hx hy ht hi hj
theorem CK{ie:Nat}(ho:o.op= .indexAddr t x y)(hx:ev ρ x=some (.slice A l.length cap))(hy:ev ρ y=some (.int k j)) [ht:Ce P t e size bytes zs] [hr:Rr Γ A α enc ie size cap l](hj:l[j]?=some el:=by assumption):Rd P o ρ Γ (.pointer (some ⟨blk A,ofs A+j*size,none⟩)):=by
 obtain⟨i,hi⟩:=hr.h;exact Lh ho hx hy ht hi hj
theorem CL(ho:o.op= .load ty x)(hx:ev ρ x=some (.pointer (some ⟨blk A,ofs A+j*size,none⟩))) [ht:Ff P ty size] [hr:Ro Γ A α enc l] [hE:Enc enc size](hj:l[j]?=some el:=by assumption):Rd P o ρ Γ (.agg (enc el).toArray):=by
 obtain⟨i,hi⟩:=hr.h;exact Qc ho hx ht hi (rsg hE hj) (hE.len _)
theorem CO{ie:Nat}(ho:o.op= .load ty x)(hx:ev ρ x=some (.pointer (some ⟨blk A,ofs A+j*size,none⟩))) [ht:Ff P ty size] [hr:Rr Γ A α enc ie size cap l] [hE:Enc enc size](hj:l[j]?=some el:=by assumption):Rd P o ρ Γ (.agg (enc el).toArray):=by
 obtain⟨i,hi⟩:=hr.h;exact Qc ho hx ht hi (rwg hE hj) (hE.len _)
theorem CP(ho:o.op= .load ty x)(hx:ev ρ x=some (.pointer (some ⟨blk A,ofs A+j*size+f,none⟩))) [ht:Ca P ty] [hr:Ro Γ A α enc l] [hE:Enc enc size](hj:l[j]?=some el:=by assumption)(hu:(enc el)[f]?=some v:=by rfl):Rd P o ρ Γ v:=by
 obtain⟨i,hi⟩:=hr.h;exact Cq ho hx ht hi (gvt (rsg hE hj) hu)
theorem CQ{ie:Nat}(ho:o.op= .load ty x)(hx:ev ρ x=some (.pointer (some ⟨blk A,ofs A+j*size+f,none⟩))) [ht:Ca P ty] [hr:Rr Γ A α enc ie size cap l] [hE:Enc enc size](hj:l[j]?=some el:=by assumption)(hu:(enc el)[f]?=some v:=by rfl):Rd P o ρ Γ v:=by
 obtain⟨i,hi⟩:=hr.h;exact Cq ho hx ht hi (gvt (rwg hE hj) hu)
theorem CR(ho:o.op= .load ty x)(hx:ev ρ x=some (.pointer (some ⟨blk A,ofs A+j*size,none⟩))) [ht:Ca P ty] [hr:Ro Γ A α enc l] [hE:Enc enc size](hj:l[j]?=some el:=by assumption)(hu:enc el=[v]:=by rfl):Rd P o ρ Γ v:=by
 obtain⟨i,hi⟩:=hr.h;exact Cq ho hx ht hi (Em (rsg hE hj) hu)
theorem CS{ie:Nat}(ho:o.op= .load ty x)(hx:ev ρ x=some (.pointer (some ⟨blk A,ofs A+j*size,none⟩))) [ht:Ca P ty] [hr:Rr Γ A α enc ie size cap l] [hE:Enc enc size](hj:l[j]?=some el:=by assumption)(hu:enc el=[v]:=by rfl):Rd P o ρ Γ v:=by
 obtain⟨i,hi⟩:=hr.h;exact Cq ho hx ht hi (Em (rwg hE hj) hu)
end
theorem Rd.ft{s f k b off:Nat}{ks:List Nat}(ho:o.op= .fieldAddr s x f)(hx:ev ρ x=some (.pointer (some ⟨b,off,none⟩))) [hf:La P s ks](hk:ks[f]?=some k:=by rfl):Rd P o ρ Γ (.pointer (some ⟨b,off+k,none⟩)):=Rd.field ho hx (hf.ft hk)
theorem Rd.ln{A:OA}{n c t e s b:Nat}{zs:List Value}(ho:o.op= .call {callee:= .builtin .len,args:=#[x],argTypes:=#[t]})(hx:ev ρ x=some (.slice A n c)) [ht:Ce P t e s b zs]:Rd P o ρ Γ (.int .i64 n):=Rd.len ho hx ht.und
theorem rda(h:Rd P o ρ Γ v:=by first|exact dn rfl rfl|exact Rd.ft rfl rfl|exact Rd.nilCheck rfl rfl|exact Rd.assign rfl rfl|exact Rd.ln rfl rfl|exact Rd.eql rfl rfl rfl|exact Rd.neq rfl rfl rfl|exact Rd.lss rfl rfl rfl|exact Rd.leq rfl rfl rfl|exact Rd.gtr rfl rfl rfl|exact Rd.geq rfl rfl rfl|exact kG rfl rfl rfl|exact kF rfl rfl rfl|exact QC rfl rfl rfl om|exact Rd.extract rfl rfl rfl|exact Rd.not rfl rfl):Rd P o ρ Γ v:=h
end
structure Zs(n:Nat)(G:Prop):Prop where
 go:G
section
variable{H:Prop}{n:Nat}{P:Program}{C:Cx}{ρ:Bj}{Γ Γ':List Ad}{K:Act→World→Prop}{Q Q':Exit→Act→World→Prop}{ops:Array Oper}{rest:List Oper}{o:Oper}{v:Value}{d:Nat}{X Y:Code}{id:Nat}
structure Kp(G:Prop):Prop where
 go:G
theorem aHz{G:Prop}(k:Kp G):Zs 0 G:=⟨k.go⟩
theorem Zs.nm(h:Γ=Γ')(k:Zs n (To C ρ Γ' K)):Zs n (To C ρ Γ K):=by rw[h];exact k
theorem Zs.k(k:Zs n (To C ((d,undef)::ρ) Γ (wpList P ops Q rest)))(hg:grd ops ρ o=some false:=by rfl)(hd:o.dst=some d:=by rfl)(hn:Nat.blt d C.n=true:=by rfl):Zs (n+1) (To C ρ Γ (wpList P ops Q (o::rest))):=⟨Jsk hg hd hn k.go⟩
theorem kR(h:Rd P o ρ Γ v)(k:Zs n (To C ((d,v)::ρ) Γ (wpList P ops Q rest)))(hg:grd ops ρ o=some true:=by rfl)(hd:o.dst=some d:=by rfl)(hn:Nat.blt d C.n=true:=by rfl):Zs (n+1) (To C ρ Γ (wpList P ops Q (o::rest))):=⟨To.rd hg hd hn h k.go⟩
theorem aIa(k:Zs n (To C ρ Γ (Q .normal))):Zs (n+1) (To C ρ Γ (wpList P ops Q [])):=⟨k.go⟩
theorem Zs.t(k:Zs n (To C ρ Γ K)):Zs (n+1) (To C ρ Γ (Exit.then K Q' .normal)):=⟨k.go⟩
theorem Zs.tx(k:Zs n (To C ρ Γ (Q (.exit id)))):Zs (n+1) (To C ρ Γ (Exit.then K Q (.exit id))):=⟨k.go⟩
theorem Zs.tr(k:Zs n (To C ρ Γ (Q .ret))):Zs (n+1) (To C ρ Γ (Exit.then K Q .ret)):=⟨k.go⟩
theorem aIb(k:Zs n (To C ρ Γ (Q .normal))):Zs (n+1) (To C ρ Γ (Exit.inBlock id Q .normal)):=⟨k.go⟩
theorem aIc(k:Zs n (To C ρ Γ (Q .ret))):Zs (n+1) (To C ρ Γ (Exit.inBlock id Q .ret)):=⟨k.go⟩
theorem aId(k:Zs n (To C ρ Γ (Q .normal))):Zs (n+1) (To C ρ Γ (Exit.inBlock id Q (.exit id))):=⟨Jbx k.go⟩
theorem aIe{i:Nat}(k:Zs n (To C ρ Γ (Q (.exit i))))(hne:Nat.beq i id=false:=by rfl):Zs (n+1) (To C ρ Γ (Exit.inBlock id Q (.exit i))):=⟨GQ hne k.go⟩
theorem Zs.q(k:Zs n (To C ρ Γ (X.wp P (Exit.then (Y.wp P Q) Q)))):Zs (n+1) (To C ρ Γ ((Code.seq X Y).wp P Q)):=⟨Js k.go⟩
theorem Zs.g{l:List Oper}(k:Zs n (To C ρ Γ (wpList P l.toArray Q l))):Zs (n+1) (To C ρ Γ ((Code.region id l.toArray false).wp P Q)):=⟨cz k.go⟩
theorem Zs.b(k:Zs n (To C ρ Γ (X.wp P (Exit.inBlock id Q)))):Zs (n+1) (To C ρ Γ ((Code.block id X).wp P Q)):=⟨To.b k.go⟩
theorem aIf(k:Zs n (To C ρ Γ (Q .normal))):Zs (n+1) (To C ρ Γ (Code.skip.wp P Q)):=⟨Jsp k.go⟩
theorem aIg(k:Zs n (To C ρ Γ (Q (.exit id)))):Zs (n+1) (To C ρ Γ ((Code.exit id).wp P Q)):=⟨Jex k.go⟩
theorem aIh(k:Zs n (To C ρ Γ (Q .ret))):Zs (n+1) (To C ρ Γ (Code.ret.wp P Q)):=⟨Jrt k.go⟩
theorem aIi{c:Operand}(k:Zs n (To C ρ Γ (X.wp P Q)))(hc:ev ρ c=some (.bool true):=by rfl):Zs (n+1) (To C ρ Γ ((Code.cond c X Y).wp P Q)):=⟨Ld hc k.go⟩
theorem aIj{c:Operand}(k:Zs n (To C ρ Γ (Y.wp P Q)))(hc:ev ρ c=some (.bool false):=by rfl):Zs (n+1) (To C ρ Γ ((Code.cond c X Y).wp P Q)):=⟨BS hc k.go⟩
theorem Zs.u{x y:Operand}{ty b i t m:Nat}{us cs:List Value}(ho:o.op= .store ty x y)(hx:ev ρ x=some (pv b))(hy:ev ρ y=some (.agg us.toArray)) [ht:Ff P ty m] [hi:Bx Γ b i cs t](k:Zs n (To C ρ (Γ.set i (box b us t)) (wpList P ops Q rest)))(hg:grd ops ρ o=some true:=by rfl)(hd:o.dst=none:=by rfl)(hl:us.length=m:=by rfl)(hv:us.all (·.oneCell')=true:=by rfl)(hc:us.length=cs.length:=by rfl):Zs (n+1) (To C ρ Γ (wpList P ops Q (o::rest))):=⟨Jup hg hd (Cf ho hx hy ht hl hv hi.h (bta hc)) k.go⟩
theorem aIk{x y:Operand}{ty b off i t:Nat}{cs:List Value}(ho:o.op= .store ty x y)(hx:ev ρ x=some (.pointer (some ⟨b,off,none⟩)))(hy:ev ρ y=some v) [ht:Ca P ty] [hi:Bx Γ b i cs t](k:Zs n (To C ρ (Γ.set i (box b (cs.set off v) t)) (wpList P ops Q rest)))(hg:grd ops ρ o=some true:=by rfl)(hd:o.dst=none:=by rfl)(hv:v.oneCell'=true:=by rfl)(hc:Nat.blt off cs.length=true:=by rfl):Zs (n+1) (To C ρ Γ (wpList P ops Q (o::rest))):=⟨Jup hg hd (cu ho hx hy ht hv hi.h (bt1 hc)) k.go⟩
section
variable{T:Tel}{l:List Oper}{Θ:List Ad}{R:Act→World→Prop}{ms:List Ep}{N:News}{i kd:Nat}{deps:List Nat}
theorem Wv(ho:l[i]?=some o)(h:Rd P o ρ Θ v)(k:Zs n (Dt P T l Θ R ms C ((d,v)::ρ) Γ N))(hg:grd l.toArray ρ o=some true:=by rfl)(hd:o.dst=some d:=by rfl)(hn:Nat.blt d C.n=true:=by rfl):Zs (n+1) (Dt P T l Θ R (⟨i,deps,0⟩::ms) C ρ Γ N):=⟨Nt ho hg hd hn h k.go⟩
structure FlR(Δ:List Ad)(P:Program)(T:Tel)(l:List Oper)(Θ:List Ad)(R:Act→World→Prop)(ms:List Ep)(C:Cx)(ρ:Bj)(Γ:List Ad)(N:News)(o:Oper):Prop where
 go:∃v d,Rd P o ρ Δ v∧grd l.toArray ρ o=some true∧o.dst=some d∧Nat.blt d C.n=true∧Dt P T l Θ R ms C ((d,v)::ρ) Γ N
theorem aIl{Δ:List Ad}(ho:l[i]?=some o)(hn:avail N deps++Γ=Δ)(k:Zs (n+1) (FlR Δ P T l Θ R ms C ρ Γ N o)):Zs (n+1) (Dt P T l Θ R (⟨i,deps,1⟩::ms) C ρ Γ N):=by
 obtain⟨v,d,h,hg,hd,hn',k2⟩:=k.go.go;subst hn;exact⟨Fw.rd ho hg hd hn' h k2⟩
theorem Ww{Δ:List Ad}(h:Rd P o ρ Δ v)(k:Zs n (Dt P T l Θ R ms C ((d,v)::ρ) Γ N))(hg:grd l.toArray ρ o=some true:=by rfl)(hd:o.dst=some d:=by rfl)(hn:Nat.blt d C.n=true:=by rfl):Zs (n+1) (FlR Δ P T l Θ R ms C ρ Γ N o):=⟨⟨v,d,h,hg,hd,hn,k.go⟩⟩
theorem Zs.fs(ho:l[i]?=some o)(k:Zs n (Dt P T l Θ R ms C ((d,undef)::ρ) Γ N))(hg:grd l.toArray ρ o=some false:=by rfl)(hd:o.dst=some d:=by rfl)(hn:Nat.blt d C.n=true:=by rfl)(hk:kd=0∨kd=1∨kd=3:=by decide)(hT:T i=none:=by rfl):Zs (n+1) (Dt P T l Θ R (⟨i,deps,kd⟩::ms) C ρ Γ N):=⟨Fw.skip hk ho hg hd hn k.go hT⟩
theorem aIm(k:Zs n (To C ρ (flat N++Γ) R)):Zs (n+1) (Dt P T l Θ R [] C ρ Γ N):=⟨Fw.fin k.go⟩
end
theorem ae{ty:Nat}{zs:List Value} [hz:De P ty zs](k:∀b,To C ((d,pv b)::ρ) (box b zs ty::Γ) (wpList P ops Q rest))(hg:grd ops ρ o=some true:=by rfl)(hd:o.dst=some d:=by rfl)(hn:Nat.blt d C.n=true:=by rfl)(ho:o.op= .alloc ty:=by rfl):To C ρ Γ (wpList P ops Q (o::rest)):=To.alloc hg hd hn ho hz k
theorem Jbo{ty:Nat}{x:Operand}{u:Value}{us:List Value}(k:∀b,To C ((d,pv b)::ρ) (box b us ty::Γ) (wpList P ops Q rest))(hg:grd ops ρ o=some true:=by rfl)(hd:o.dst=some d:=by rfl)(hn:Nat.blt d C.n=true:=by rfl)(ho:o.op= .box ty x:=by rfl)(hx:ev ρ x=some u:=by rfl)(hu:u.cells=us.toArray:=by rfl):To C ρ Γ (wpList P ops Q (o::rest)):=QK hg hd hn ho hx hu k
theorem Jz{G:Prop}(n:Nat)(k:H)(h:Kp H→Zs n G:=by intro k;repeat first|exact aHz k|(with_reducible first|refine aIa ?_|refine Zs.t ?_|refine Zs.q ?_|refine Zs.g ?_|refine Zs.b ?_|refine aIf ?_|refine aIg ?_|refine aIh ?_|refine Zs.tx ?_|refine Zs.tr ?_|refine aIb ?_|refine aIc ?_|refine aId ?_)|refine kR rda ?_|refine Zs.k ?_|refine aIe ?_|refine aIi ?_|refine aIj ?_|refine Wv rfl rda ?_|refine Zs.fs rfl ?_|refine aIm ?_|refine Wv rfl (QP rfl rfl) ?_|refine Wv rfl (CG rfl rfl) ?_|refine Wv rfl (CJ rfl rfl rfl) ?_|refine Wv rfl (CL rfl rfl) ?_|refine Wv rfl (CP rfl rfl) ?_|refine Wv rfl (CR rfl rfl) ?_|refine Wv rfl (CK rfl rfl rfl) ?_|refine Wv rfl (CO rfl rfl) ?_|refine Wv rfl (CQ rfl rfl) ?_|refine Wv rfl (CS rfl rfl) ?_|(refine aIl rfl nrm ?_;first|refine Ww rda ?_|refine Ww (QP rfl rfl) ?_|refine Ww (CG rfl rfl) ?_|refine Ww (CJ rfl rfl rfl) ?_|refine Ww (CL rfl rfl) ?_|refine Ww (CP rfl rfl) ?_|refine Ww (CR rfl rfl) ?_|refine Ww (CK rfl rfl rfl) ?_|refine Ww (CO rfl rfl) ?_|refine Ww (CQ rfl rfl) ?_|refine Ww (CS rfl rfl) ?_)|(refine Zs.nm nrm ?_;first|refine kR (QP rfl rfl) ?_|refine kR (CG rfl rfl) ?_|refine kR (CJ rfl rfl rfl) ?_|refine kR (CL rfl rfl) ?_|refine kR (CP rfl rfl) ?_|refine kR (CR rfl rfl) ?_|refine kR (CK rfl rfl rfl) ?_|refine kR (CO rfl rfl) ?_|refine kR (CQ rfl rfl) ?_|refine kR (CS rfl rfl) ?_|refine Zs.u rfl rfl rfl ?_|refine aIk rfl rfl rfl ?_)):G:=(h ⟨k⟩).go
end
section
variable{P:Program}{o:Oper}{ρ:Bj}{Γ:List Ad}{x y:Operand}{t t':TypeId}{a b j:Nat}
theorem XH{k k':IntKind}(ho:o.op= .binOp .shr t x y t')(hx:ev ρ x=some (.int k (a:Int)))(hy:ev ρ y=some (.int k' (j:Int)))(hj:j≤k.bits):Rd P o ρ Γ (.int k ((a/2^j:Nat):Int)):=dw ho hx hy fun w=>by
 have h1:¬((j:Int)<0):=om;have h2:Min.min j k.bits=j:=Nat.min_eq_left hj;have e:(a:Int).fdiv (2^j)=((a/2^j:Nat):Int):=by
  rw[Int.fdiv_eq_ediv_of_nonneg _ (by exact_mod_cast aOk _)];simp
 simp only[eqGuard,binOp,Op.shift,h1,if_false,Int.toNat_natCast,h2,e];simp
theorem Rd.cap{e:TypeId}{A:OA}{n c:Nat}(ho:o.op= .call {callee:= .builtin .cap,args:=#[x],argTypes:=#[t]})(ht:P.underlying t=some (.slice e))(hx:ev ρ x=some (.slice A n c)):Rd P o ρ Γ (.int .i64 (c:Int)):=fun a w ha _=>by
 unfold execOp;simp[ho,resolve,invoke,builtin,ha.eval hx,Builtin.cap_,run_underlying ht,goInt]
theorem wK{α:Type}{enc:α→List Value}{size:Nat}(E:Enc enc size){A:OA}{cap lo:Nat}{l:List α}{w:World}(hl:l.length≤cap)(hlo:lo≤l.length)(h:Src w A (l.flatMap enc)):Src w (slAt A cap lo size) ((l.drop lo).flatMap enc):=by
 have e1:(l.drop lo).flatMap enc=(l.flatMap enc).drop (lo*size):=by
  have hlen:((l.take lo).flatMap enc).length=lo*size:=by rw[E.flat_len,aOh,Nat.min_eq_left hlo]
  conv=>rhs;rw[←aPn lo l,aPm,←hlen,List.drop_left']
 by_cases hc:cap=lo
 · left
   rw[aPz om];rfl
 · rw[slAt,aNy hc]
   rcases h with h|⟨g,off,rfl,hr⟩
   ·left;rw[e1,h];simp
   · refine .inr ⟨g,off+lo*size,by simp only[Option.map_some,Addr.add_mid],fun j v hv=>?_⟩
     rw[e1,aQl]at hv;have:=hr (lo*size+j) v hv;rw[show off+lo*size+j=off+(lo*size+j) by omega];exact this
theorem QQ{α:Type}{enc:α→List Value}{size:Nat}(E:Enc enc size){A:OA}{cap lo:Nat}{l:List α}(i:Nat)(h:Γ[i]?=some (ros enc A l))(hl:l.length≤cap)(hlo:lo≤l.length):∀w,oks Γ w→(ros enc (slAt A cap lo size) (l.drop lo)).holds w:=fun _ hw=>wK E hl hlo (hw _ (sN h))
theorem wL{α:Type}{enc:α→List Value}{size:Nat}{e:TypeId}(E:Enc enc size){A:OA}{cap lo:Nat}{l:List α}(i:Nat)(h:Γ[i]?=some (rows enc e size A cap l))(hl:l.length≤cap)(hlo:lo≤l.length):∀w,oks Γ w→(ros enc (slAt A cap lo size) (l.drop lo)).holds w:=fun w hw=>wK E hl hlo (Oq i h w hw)
theorem CU{C:Cx}{K:Act→World→Prop}{α:Type}{enc:α→List Value}{size:Nat}(E:Enc enc size){A:OA}{l:List α}(cap lo i:Nat)(hi:Γ[i]?=some (ros enc A l))(hl:l.length≤cap)(hlo:lo≤l.length)(h:To C ρ (ros enc (slAt A cap lo size) (l.drop lo)::Γ) K):To C ρ Γ K:=by
 refine Yg (ros enc (slAt A cap lo size) (l.drop lo)) rfl (fun g hg=>Tp i hi ?_) (fun w hw=>QQ E i hi hl hlo w hw) h;have h1:g∈Jc (slAt A cap lo size) ((l.drop lo).flatMap enc):=hg;show g∈Jc A (l.flatMap enc);have e2:l.flatMap enc=(l.take lo).flatMap enc++(l.drop lo).flatMap enc:=by rw[←aPm,aPn]
 cases h2:(l.drop lo).flatMap enc with
 |nil=>rw[h2]at h1;simp[Jc]at h1
 | cons u us=>
   rw[h2]at h1;have h3:g∈Ik A:=by
    have h4:g∈Ik (slAt A cap lo size):=h1;rw[slAt]at h4;split at h4
    ·exact h4
    · cases A with
      |none=>simp[Ik]at h4
      | some a=>
        obtain⟨b,o,sp⟩:=a;obtain⟨ad,h5,h6⟩:=Om.1 h4;simp only[Option.map_some,aOi]at h5;refine Om.2 ⟨_,rfl,?_⟩;rw[←h6,←h5];cases sp with
        |none=>rw[Addr.add_mid]
        |some p=>unfold Addr.add;split<;>rfl
   rw[e2,h2];cases h7:(l.take lo).flatMap enc with
   |nil=>exact h3
   |cons v vs=>exact h3
end
def kS(o:Oper):Bool:=match o.op with
 | .move _| .assign _| .alloc _| .box _ _| .build _ _| .buildSlice _ _ _| .load _ _| .store _ _ _| .fieldAddr _ _ _| .binOp _ _ _ _ _| .indexAddr _ _ _| .slice _ _ _ _ _| .convert _ _ _| .nilCheck _=>true
 |_=>false
def aDc(m p:Nat)(o:Oper):Bool:=o.after.toList.any fun e=>Region.binds .any e&&(Nat.beq e.on m||Nat.beq e.on p)
theorem sZ{o:Oper}(hp:kS o=true)(ρ:Operand→Value)(P:Program)(w w':World):(∀f args,(execOp ρ o).run P w≠ .ok (.enter f args) w')∧(∀row args,(execOp ρ o).run P w≠ .ok (.row row args) w'):=by
 have hv:∀s:Sem Value,(∀f args,(do pure (.value (←s)):Sem Next).run P w≠ .ok (.enter f args) w')∧(∀row args,(do pure (.value (←s)):Sem Next).run P w≠ .ok (.row row args) w'):=fun s=>by
  simp only[aPg];cases s.run P w<;>simp[Result.andThen]
 have hu:∀s:Sem Unit,(∀f args,(do s;pure .skip:Sem Next).run P w≠ .ok (.enter f args) w')∧(∀row args,(do s;pure .skip:Sem Next).run P w≠ .ok (.row row args) w'):=fun s=>by
  simp only[aPg];cases s.run P w<;>simp[Result.andThen]
 unfold kS at hp;unfold execOp;split at hp<;>rename_i he<;>first|exact aOx hp (by decide)|(simp only[he];first|exact hv _|exact hu _|(simp;done)|skip)
 all_goals
  constructor<;>intro f args<;>split<;>first|(simp[runtimePanic,goPanic];done)|(split<;>first|(simp[runtimePanic,goPanic];done)|skip)|skip
 all_goals
  have key:∀s:Program→Sem (Option Bool),∀u:Value,(∀f args,(do let p←program;let __do_lift←s p;if(__do_lift !=some false)=true then do(unsupported (Unsupported.noEntry "op/nilCheck.the method's receiver behind this interface value is a nil pointer, or cannot be seen to be none, and the arguments act or may panic (ledger 612)"):Sem Unit);pure (Next.value u)else pure (Next.value u):Sem Next).run P w≠ .ok (.enter f args) w')∧(∀f args,(do let p←program;let __do_lift←s p;if(__do_lift !=some false)=true then do(unsupported (Unsupported.noEntry "op/nilCheck.the method's receiver behind this interface value is a nil pointer, or cannot be seen to be none, and the arguments act or may panic (ledger 612)"):Sem Unit);pure (Next.value u)else pure (Next.value u):Sem Next).run P w≠ .ok (.row f args) w'):=fun s u=>by
   simp only[aPg];cases Sem.run P program w with
   |halt a b=>simp[Result.andThen]
   | ok p w0=>
     simp only[aOy];cases(s p).run P w0 with
     |ok a w1=>simp only[Result.andThen];split<;>simp[unsupported]
     |halt a b=>simp[Result.andThen]
  first|exact(key (fun p=>nilAhead (p.types.size+Made.depth) _ _ _) _).1 f args|exact(key (fun p=>nilAhead (p.types.size+Made.depth) _ _ _) _).2 f args
section
variable{P:Program}{l:List Oper}{Q:Act→World→Prop}
end
section
variable{P:Program}{l:List Oper}{C:Cx}{ρ:Bj}{Γ:List Ad}
end
section
variable{P:Program}{T:Tel}{l:List Oper}{C:Cx}{ρ:Bj}{Γ Θ:List Ad}{Q:Act→World→Prop}{ms:List Ep}{N:List (Nat×List Ad)}{i d:Nat}{deps:List Nat}{o:Oper}
end
abbrev fe(r:Option Nat):Fence:={Fence.wide with round:=r}
theorem kT{r:Option Nat}{n:Nat}{P:Program}{f:FuncId}{args:Array Value}{w:World}{R:Ending→World→Prop}(h:Calls P f args w R):CallsIn (fe r) n P f args w R:=callsIn_wide.2 h
theorem KY{r:Option Nat}{n:Nat}{P:Program}{row:String}{args:Array Value}{w:World}{R:Value→World→Prop}(h:Rows P row args w R):RowsIn (fe r) n P row args w R:=fun c cs _=>by
 obtain⟨v,w',h1,h2⟩:=h c cs;exact⟨v,w',h1,(stepsIn_wide (P:=P)).2 h2⟩
theorem Oc{r:Option Nat}{ρ:Operand→Value}{o:Oper}{P:Program}{w w':World}{x:Next}(h:(execOp ρ o).run P w= .ok x w')(hx:∀d,x≠ .defer d):(o.semAt r ρ).run P w= .ok x w':=by
 rw[Oper.semAt_eq r ρ o]
 ·exact h
 · intro c hc
   unfold execOp at h;simp only[hc,aPg]at h;cases hr:(resolve ρ c o.type).run P w with
   | ok d w1=>
     rw[hr]at h;simp[Result.andThen]at h;exact hx _ h.1.symm
   |halt a b=>rw[hr]at h;simp[Result.andThen]at h
section rules
variable{P:Program}{C:Cx}{ρ ρ':Bj}{Γ Γ':List Ad}{K:Act→World→Prop}{Q:Exit→Act→World→Prop}{r:Option Nat}
theorem ToR.seq{x y:Code}(h:To C ρ Γ (x.wpIn (fe r) 0 P (Exit.then (y.wpIn (fe r) 0 P Q) Q))):To C ρ Γ ((Code.seq x y).wpIn (fe r) 0 P Q):=fun a w ha hp=>wpIn_seq (h a w ha hp)
theorem ToR.skip(h:To C ρ Γ (Q .normal)):To C ρ Γ (Code.skip.wpIn (fe r) 0 P Q):=fun a w ha hp=>wpIn_skip (h a w ha hp)
theorem ToR.exit{id:Nat}(h:To C ρ Γ (Q (.exit id))):To C ρ Γ ((Code.exit id).wpIn (fe r) 0 P Q):=fun a w ha hp=>wpIn_exit (h a w ha hp)
theorem ToR.block{id:Nat}{c:Code}(h:To C ρ Γ (c.wpIn (fe r) 0 P (Exit.inBlock id Q))):To C ρ Γ ((Code.block id c).wpIn (fe r) 0 P Q):=fun a w ha hp=>wpIn_block (h a w ha hp)
theorem KZ{c:Operand}{x y:Code}(hc:ev ρ c=some (.bool false))(h:To C ρ Γ (y.wpIn (fe r) 0 P Q)):To C ρ Γ ((Code.cond c x y).wpIn (fe r) 0 P Q):=
 fun a w ha hp=>wpIn_cond_false (ha.sees.eval hc) (h a w ha hp)
theorem ToR.cond{c:Operand}{x y:Code}{t:Bool}(hc:ev ρ c=some (.bool t))(h1:t=true→To C ρ Γ (x.wpIn (fe r) 0 P Q))(h2:t=false→To C ρ Γ (y.wpIn (fe r) 0 P Q)):To C ρ Γ ((Code.cond c x y).wpIn (fe r) 0 P Q):=
 fun a w ha hp=>wpIn_cond_split (ha.sees.eval hc) (fun e=>h1 e a w ha hp) (fun e=>h2 e a w ha hp)
theorem LA{c:Operand}{x y:Code}{p:Prop} [Decidable p](hc:ev ρ c=some (.bool (decide p)))(h1:p→To C ρ Γ (x.wpIn (fe r) 0 P Q))(h2:¬p→To C ρ Γ (y.wpIn (fe r) 0 P Q)):To C ρ Γ ((Code.cond c x y).wpIn (fe r) 0 P Q):=
 ToR.cond hc (fun e=>h1 (aQn e)) (fun e=>h2 (of_decide_eq_false e))
theorem Uq{id:Nat}{l:List Oper}(h:To C ρ Γ (wpListIn (fe r) 0 P l.toArray Q l)):To C ρ Γ ((Code.region id l.toArray false).wpIn (fe r) 0 P Q):=fun a w ha hp=>wpIn_region_lit (h a w ha hp)
theorem ToR.nil{ops:Array Oper}(h:To C ρ Γ (Q .normal)):To C ρ Γ (wpListIn (fe r) 0 P ops Q []):=h
theorem wpIn_loop_ghost{F:Fence}{n:Nat}{a:Act}{w:World}{c:Code}(I:Nat→Act→World→Prop)(n₀:Nat)(h₀:I n₀ a w)
    (round:∀m a w,I m a w→c.wpIn F n P (Exit.then (fun a' w'=>∃n',n'<m∧I n' a' w') Q) a w):(Code.loop c).wpIn F n P Q a w:=by
 refine wpIn_loop (fun a w=>∃n,I n a w) (fun a w=>leastOf (fun n=>I n a w)) ⟨n₀,h₀⟩ ?_;intro a w hI;refine Go.wpIn_mono (round _ a w (leastOf_spec hI).1) ?_;intro e a' w' hq;cases e with
 | normal=>
   obtain⟨n',hlt,hI'⟩:=hq;exact show(∃n,I n a' w')∧leastOf (fun n=>I n a' w')<leastOf (fun n=>I n a w)from⟨⟨n',hI'⟩,Nat.lt_of_le_of_lt ((leastOf_spec ⟨n',hI'⟩).2 n' hI') hlt⟩
 |exit id=>exact hq
 |goto l=>exact hq
 |ret=>exact hq
 |panic ch=>exact hq
 |outgrown=>exact hq
theorem ToR.loop{c:Code}(I:Nat→Bj→List Ad→Prop)(m0:Nat)(h0:I m0 ρ Γ)(round:∀m ρ Γ,I m ρ Γ→To C ρ Γ (c.wpIn (fe r) 0 P (Exit.then (aR C I m) Q))):To C ρ Γ ((Code.loop c).wpIn (fe r) 0 P Q):=fun _ _ ha hp=>
 wpIn_loop_ghost (fun m a w=>∃ρ Γ,I m ρ Γ∧Has C.n C.ds ρ a∧Db C.Γ0 Γ C.w0 w) m0 ⟨ρ,Γ,h0,ha,hp⟩ fun m a w ⟨ρ,Γ,hI,ha,hp⟩=>round m ρ Γ hI a w ha hp
theorem To.wide{c:Code}(h:To C ρ Γ (c.wpIn (fe none) 0 P Q)):To C ρ Γ (c.wp P Q):=fun a w ha hp=>wpIn_wide.1 (h a w ha hp)
end rules
section walk
variable{P:Program}{o:Oper}{ρ:Bj}{Γ Γ':List Ad}{C:Cx}{ops:Array Oper}{Q:Exit→Act→World→Prop}{rest:List Oper}{v:Value}{d:Nat}{r:Option Nat}{x:Operand}
theorem gJ{a:Act}{w w':World}{v:Value}(hg:Region.wanted o (yielded ops a.tmps)=true)(hr:(execOp a.eval o).run P w= .ok (.value v) w')(k:wpListIn (fe r) 0 P ops Q rest (a.put o.dst v) w'):wpListIn (fe r) 0 P ops Q (o::rest) a w:=by
 refine wpListIn_step fun K hK=>?_;rw[if_pos hg];refine⟨fun _ _=>trivial,?_⟩;rw[show(o.semAt (fe r).round a.eval).run P w=_ from Oc hr (by simp)];exact hK _ _ k
theorem tF{a:Act}{w w':World}(hg:Region.wanted o (yielded ops a.tmps)=true)(hr:(execOp a.eval o).run P w= .ok .skip w')(k:wpListIn (fe r) 0 P ops Q rest (a.put o.dst undef) w'):wpListIn (fe r) 0 P ops Q (o::rest) a w:=by
 refine wpListIn_step fun K hK=>?_;rw[if_pos hg];refine⟨fun _ _=>trivial,?_⟩;rw[show(o.semAt (fe r).round a.eval).run P w=_ from Oc hr (by simp)];exact hK _ _ k
theorem dz(hg:grd ops ρ o=some true)(hd:o.dst=some d)(hn:Nat.blt d C.n=true)(h:Rd P o ρ Γ v)(k:To C ((d,v)::ρ) Γ (wpListIn (fe r) 0 P ops Q rest)):To C ρ Γ (wpListIn (fe r) 0 P ops Q (o::rest)):=
 fun a w ha hp=>gJ (Es hg ha.sees) (h a w ha.sees hp.sat.each) (by rw[hd];exact k _ w (ha.put hn) hp)
theorem ToR.up(hg:grd ops ρ o=some true)(hd:o.dst=none)(h:Up P o ρ Γ Γ')(k:To C ρ Γ' (wpListIn (fe r) 0 P ops Q rest)):To C ρ Γ (wpListIn (fe r) 0 P ops Q (o::rest)):=
 fun a w ha hp=>by
  obtain⟨w',hr,hq⟩:=h a w ha.sees hp.sat
  refine tF (Es hg ha.sees) hr ?_;rw[hd];exact k a w' ha (hp.trans hq)
theorem ToR.mk{R:Value→List Ad→Prop}(hg:grd ops ρ o=some true)(hd:o.dst=some d)(hn:Nat.blt d C.n=true)(h:Mk P o ρ Γ R)(k:∀v N,R v N→To C ((d,v)::ρ) (N++Γ) (wpListIn (fe r) 0 P ops Q rest)):To C ρ Γ (wpListIn (fe r) 0 P ops Q (o::rest)):=
 fun a w ha hp=>by
  obtain⟨v,N,w',hr,hR,hq⟩:=h a w ha.sees hp.sat.each;refine gJ (Es hg ha.sees) hr ?_;rw[hd];exact k v N hR _ w' (ha.put hn) (hp.trans (hq.add hp.sat))
theorem LB{R:Value→List Ad→Prop}{f:FuncId}{vs:List Value}{Γ1:List Ad}(hg:grd ops ρ o=some true)(hd:o.dst=some d)(hn:Nat.blt d C.n=true)(he:Ent P o ρ f vs)(hc:Bd P f vs Γ1 R)(hq:owns Γ1=[])(hs:∀w,oks Γ w→oks Γ1 w)
    (k:∀v Γ',R v Γ'→reads Γ'=[]∧To C ((d,v)::ρ) (Γ'++Γ) (wpListIn (fe r) 0 P ops Q rest)):To C ρ Γ (wpListIn (fe r) 0 P ops Q (o::rest)):=
 fun a w ha hp=>by
  refine wpListIn_step fun K hK=>?_;rw[if_pos (Es hg ha.sees)];refine⟨fun _ _=>trivial,?_⟩;rw[show(o.semAt (fe r).round a.eval).run P w=_ from Oc (he a w ha.sees) (by simp)];refine⟨fun h=>by simp[Fence.wide]at h,kT ((hc w (Gh hq (hs w hp.sat.each))).mono ?_)⟩;rintro e w' ⟨v,Γ',rfl,hR,hpost⟩;show K _ _;rw[hd];obtain⟨hr,hk⟩:=k v Γ' hR;exact hK _ _ (hk _ w' (ha.put hn) (hp.trans ((Rj hq hpost hr).add hp.sat)))
theorem eG{f:FuncId}{vs:List Value}{Γ1:List Ad}(hg:grd ops ρ o=some true)(hd:o.dst=some d)(hn:Nat.blt d C.n=true)(he:Ent P o ρ f vs)(hc:Bd P f vs Γ1 (fun v' _=>v'=v))(hq:owns Γ1=[])(hs:∀w,oks Γ w→oks Γ1 w)
    (k:To C ((d,v)::ρ) Γ (wpListIn (fe r) 0 P ops Q rest)):To C ρ Γ (wpListIn (fe r) 0 P ops Q (o::rest)):=
 LB (R:=fun v' Γ'=>v'=v∧Γ'=[]) hg hd hn he (fun w hw=>(hc w hw).mono fun e w' ⟨v',Γ',h1,h2,h3⟩=>⟨v',[],h1,⟨h2,rfl⟩,Db.drop (Γ':=[]) h3⟩) hq hs fun v' Γ' ⟨h1,h2⟩=>by subst h1 h2;exact⟨rfl,k⟩
theorem ToR.alloc{ty:TypeId}{zs:List Value}(hg:grd ops ρ o=some true)(hd:o.dst=some d)(hn:Nat.blt d C.n=true)(ho:o.op= .alloc ty)(hz:De P ty zs)(k:∀b,To C ((d,pv b)::ρ) (box b zs ty::Γ) (wpListIn (fe r) 0 P ops Q rest)):To C ρ Γ (wpListIn (fe r) 0 P ops Q (o::rest)):=
 ToR.mk hg hd hn (Mk.alloc ho hz) fun _ _ ⟨b,h1,h2⟩=>by subst h1 h2;exact k b
end walk
theorem Hm.wpOpIn{P:Program}{ops:Array Oper}{Q:Exit→Act→World→Prop}{r:Option Nat}{i:Nat}{o:Oper}(ho:ops[i]?=some o){a:Act}{w:World}{K:Value→World→Prop}{K':Act→World→Prop}
    (k:Hm P ops o a w K) (hk:∀v w',K v w'→K' (a.put o.dst v) w'):Go.wpOpIn (fe r) 0 P ops Q i K' a w:=by
 unfold Go.wpOpIn;simp only[ho];unfold Hm at k;split at k
 · rename_i hw
   rw[if_pos hw];refine⟨fun _ _=>trivial,?_⟩;unfold vX at k;split at k
   ·rename_i he;rw[show(o.semAt (fe r).round a.eval).run P w=_ from Oc he (by simp)];exact hk _ _ k
   ·rename_i he;rw[show(o.semAt (fe r).round a.eval).run P w=_ from Oc he (by simp)];exact hk _ _ k
   · rename_i he;rw[show(o.semAt (fe r).round a.eval).run P w=_ from Oc he (by simp)]
     refine⟨fun h=>by simp[Fence.wide]at h,kT (Calls.mono k fun e w'' hh=>?_)⟩;obtain⟨v,rfl,hv⟩:=hh;exact hk _ _ hv
   · rename_i he;rw[show(o.semAt (fe r).round a.eval).run P w=_ from Oc he (by simp)]
     exact⟨fun h=>by simp[Fence.wide]at h,KY (Rows.mono k fun v w'' hv=>hk _ _ hv)⟩
   ·exact k.elim
 · rename_i hw
   rw[if_neg hw];exact⟨fun _ _=>trivial,hk _ _ k⟩
theorem kU{P:Program}{ops:Array Oper}{r:Option Nat}{Q:Act→World→Prop}{R:Exit→Act→World→Prop}(hR:∀a w,Q a w→R .normal a w):∀(fuel:Nat) (listed:Array Bool) (a:Act) (w:World),Ni P ops Q fuel listed a w→wpAnyIn (fe r) 0 P .any ops R fuel listed a w
 |0,_,_,_,h=>⟨h.1,hR _ _ h.2⟩
 |fuel+1,_,a,w,h=>⟨fun hr=>hR _ _ (h.1 hr),fun i hi=>by
     obtain⟨o,h1,h2⟩:=h.2 i hi;exact Hm.wpOpIn h1 h2 fun v w' hv=>kU hR fuel _ _ _ hv⟩
theorem ToR.flow{P:Program}{C:Cx}{ρ:Bj}{Γ:List Ad}{l:List Oper}{r:Option Nat}{id:Nat}{R:Exit→Act→World→Prop}(Θ:List Ad)(ms:List Ep)(hm:P.follows .mixedOrders=true)(hB:Lc l ms=true)(hΘ:∀w,oks Γ w→oks Θ w)(h:Dt P noT l Θ (R .normal) ms C ρ Γ []):To C ρ Γ ((Code.region id l.toArray true).wpIn (fe r) 0 P R):=
 fun a w ha hp=>wpIn_region_any hm (kU (fun _ _ h=>h) _ _ _ _ (gF (oks Θ) ms hB (fun _ _=>iT) (hΘ w hp.sat.each) (h a w [] ha hp trivial)))
def Lt(l:Nat)(L:Loop)(s:LoopState)(p:Option Code):Ad where
 owns:=[l]
 reads:=[]
 holds w:=w.heap[l]?=some (.loop {L with state:=s,pending:=p})
 loc w w' h hw:=by rw[h l (.inl (by simp))];exact hw
 lt w hw g hg:=by
  simp only[List.mem_singleton,List.not_mem_nil,or_false]at hg;subst hg;exact(Array.getElem?_eq_some_iff.1 hw).1
def dfr(D:Nat):Ad where
 owns:=[D]
 reads:=[]
 holds w:=w.heap[D]?=some (.deferred (some []))
 loc w w' h hw:=by rw[h D (.inl (by simp))];exact hw
 lt w hw g hg:=by
  simp only[List.mem_singleton,List.not_mem_nil,or_false]at hg;subst hg;exact(Array.getElem?_eq_some_iff.1 hw).1
theorem tH(w:World)(l:Nat)(o:Obj):Fv (fun g=>g=l) w (w.putObj l o) where
 os:=rfl
 tape:=rfl
 output:=rfl
 size:=by simp
 drawn:=Nat.le_refl _
 block g _ hg:=World.putObj_heap_other (fun e=>hg (by rw[e]))
theorem Qd{w:World}{l:Nat}{o:Obj}{c c':Ad}{Γ:List Ad}(hs:sat (c::Γ) w)(hc:c.owns=[l])(hc':c'.owns=[l])(hr':c'.reads=[])(h:c'.holds (w.putObj l o)):Db (c::Γ) (c'::Γ) w (w.putObj l o):=by
 refine Db.frame (Γ:=[c]) (Γ':=[c']) (Δ:=Γ) hs ⟨⟨?_,?_,?_⟩,?_,?_,?_⟩
 ·intro x hx;rw[List.mem_singleton.1 hx];exact h
 ·simp[owns,hc']
 ·intro g hg;simp[reads,hr']at hg
 · refine(tH w l o).mono fun g _ hg=>?_
   simp[owns,hc,hg]
 ·intro g hg _;simpa[owns,hc,hc']using hg
 ·intro g hg;simp[reads,hr']at hg
theorem kV{w:World}{o:Obj}{c:Ad}(hc:c.owns=[w.heap.size])(hr:c.reads=[])(h:c.holds (w.alloc o)):Db [] [c] w (w.alloc o):=by
 refine⟨⟨?_,?_,?_⟩,?_,?_,?_⟩
 ·intro x hx;rw[List.mem_singleton.1 hx];exact h
 ·simp[owns,hc]
 ·intro g hg;simp[reads,hr]at hg
 ·exact Uh ⟨(Below.refl _ w).alloc (Nat.le_refl _) _,Nat.le_refl _⟩
 · intro g hg hl
   have:g=w.heap.size:=by simpa[owns,hc]using hg
   omega
 ·intro g hg;simp[reads,hr]at hg
def Tt(P:Program)(l:Nat)(args:List Value)(Γ:List Ad)(R:Value→List Ad→Prop):Prop:=
 ∀w,sat Γ w→∃f tmps assign body,(Instr.yield l args.toArray).run P w= .ok (.round l f tmps assign body) w∧
  RoundIn Fence.wide 0 P l f tmps assign body w fun e w'=>∃v Γ',e= .returned v∧R v Γ'∧Db Γ Γ' w w'
def XI(P:Program)(o:Oper)(ρ:Bj)(l:Nat)(vs:List Value):Prop:=∀a w,Vz ρ a→(execOp a.eval o).run P w=(Instr.yield l vs.toArray).run P w
theorem XI.of{P:Program}{o:Oper}{ρ:Bj}{l:Nat}{xs:List Operand}{ts:Array TypeId}{vs:List Value}{c:Operand}(ho:o.op= .call {callee:= .value c,args:=xs.toArray,argTypes:=ts})(hc:ev ρ c=some (.func (.yield l) #[] #[]))(hv:evs ρ xs=some vs):XI P o ρ l vs:=fun a w ha=>by
 unfold execOp;simp only[ho,resolve,ha.eval hc,List.map_toArray,ha.evals hv,Deferred.ofValue,invoke,Sem.run_bind,Sem.run_pure,Result.andThen_ok];simp
theorem ToR.round{P:Program}{o:Oper}{ρ:Bj}{Γ:List Ad}{C:Cx}{ops:Array Oper}{Q:Exit→Act→World→Prop}{rest:List Oper}{d:Nat}{r:Option Nat}{R:Value→List Ad→Prop}{l:Nat}{vs:List Value}{Γ1 Δ:List Ad}(is:List Nat)(hg:grd ops ρ o=some true)(hd:o.dst=some d)(hn:Nat.blt d C.n=true)(he:XI P o ρ l vs)(hp:Ui Γ is=some (Γ1,Δ))
    (hc:Tt P l vs Γ1 R) (k:∀v Γ',R v Γ'→To C ((d,v)::ρ) (Γ'++Δ) (wpListIn (fe r) 0 P ops Q rest)):To C ρ Γ (wpListIn (fe r) 0 P ops Q (o::rest)):=
 fun a w ha hq=>by
  refine wpListIn_step fun K hK=>?_;rw[if_pos (Es hg ha.sees)];refine⟨fun _ _=>trivial,?_⟩;obtain⟨f,tmps,assign,body,h1,h2⟩:=hc w ((hq.sat.perm (Jv hp)).left);have h3:(execOp a.eval o).run P w=_:=(he a w ha.sees).trans h1;rw[show(o.semAt (fe r).round a.eval).run P w=_ from Oc h3 (by simp)];refine⟨fun h=>by simp[Fence.wide]at h,RoundIn.mono (F:=fe r) (n:=0) h2 ?_⟩;rintro e w' ⟨v,Γ',rfl,hR,hpost⟩;show K _ _;rw[hd];exact hK _ _ (k v Γ' hR _ w' (ha.put hn) (hq.trans (Db.at_ hp hq.sat hpost)))
def begins(P:Program)(l:Nat)(K:Act→World→Prop)(a:Act)(w:World):Prop:=∃w2,(Instr.beginRound l).run P w= .ok () w2∧K a w2
section
variable{P:Program}{C:Cx}{ρ:Bj}{Γ:List Ad}{K:Act→World→Prop}{l:Nat}{L:Loop}{R:Value→List Ad→Prop}
theorem LC(h:To C ρ (Lt l L .busy none::Γ) K):To C ρ (Lt l L .ready none::Γ) (begins P l K):=fun a w ha hq=>by
 have hl:w.heap[l]?=some (.loop {L with state:= .ready,pending:=none}):=hq.sat.each _ (List.mem_cons_self ..);refine⟨_,run_beginRound hl rfl,h a _ ha (hq.trans (Qd hq.sat rfl rfl rfl ?_))⟩;exact World.putObj_heap_same (Array.getElem?_eq_some_iff.1 hl).1
theorem LD(h:R (.bool true) [all (Lt l L .ready none::Γ)]):To C ρ (Lt l L .busy none::Γ) (roundPost P l (Fin C R) .normal):=fun a w ha hq=>by
 have hl:w.heap[l]?=some (.loop {L with state:= .busy,pending:=none}):=hq.sat.each _ (List.mem_cons_self ..);refine⟨_,_,run_endRound none hl, .bool true,_,rfl,h,?_⟩;have:=hq.trans (Qd (c':=Lt l L .ready none) hq.sat rfl rfl rfl (World.putObj_heap_same (Array.getElem?_eq_some_iff.1 hl).1));exact⟨Yi.2 (by simpa using this.sat),this.keeps,fun g hg=>this.own g (by simpa[owns,all]using hg),fun g hg=>this.rd g (by simpa[reads,all]using hg)⟩
end
theorem Tt.of{P:Program}{l:Nat}{L:Loop}{p n:Nat}{v:Value}{ρ:Bj}{Γe Γc:List Ad}{R:Value→List Ad→Prop}{assign body:Code}(hp:L.params=#[p])(ha:L.assign=assign)(hb:L.body=body)(hL:Has n [] ρ ⟨L.tmps,[]⟩)(hn:Nat.blt p n=true)
    (h:∀w,To ⟨n,Γe++[all (Lt l L .ready none::Γc)],w,[]⟩ ((p,v)::ρ) (Lt l L .ready none::(Γe++Γc))
     (assign.wpIn (fe (some l)) 0 P (Exit.then (begins P l (body.wpIn (fe (some l)) 0 P (roundPost P l (Fin ⟨n,Γe++[all (Lt l L .ready none::Γc)],w,[]⟩ R)))) (fun _ _ _=>False)))):
    Tt P l [v] (Γe++[all (Lt l L .ready none::Γc)]) R:=fun w hs=>by
 have hs1:sat (all (Lt l L .ready none::Γc)::Γe) w:=hs.perm List.perm_append_comm;have hs2:sat ((Lt l L .ready none::Γc)++Γe) w:=Yi.1 hs1;have hs3:sat (Lt l L .ready none::(Γe++Γc)) w:=hs2.perm (List.Perm.cons _ List.perm_append_comm);have hl:w.heap[l]?=some (.loop {L with state:= .ready,pending:=none}):=hs3.each _ (List.mem_cons_self ..);refine⟨_,_,_,_,run_yield hl (by simp[hp]),?_⟩;refine roundIn_of_wpIn (F:=Fence.wide) trivial ?_;have h0:=h w {tmps:=L.tmps.setIfInBounds p v,defers:=[]} w ?_ ?_
 · rw[ha,hb]
   have e1:((L.params.zip #[v]).foldl (fun tmps (x:Tmp×Value)=>tmps.setIfInBounds x.1 x.2) L.tmps)=L.tmps.setIfInBounds p v:=by rw[hp];simp
   show assign.wpIn (fe (some l)) 0 P _ ⟨(L.params.zip #[v]).foldl (fun tmps (x:Tmp×Value)=>tmps.setIfInBounds x.1 x.2) L.tmps,[]⟩ w;rw[e1];exact h0
 ·exact hL.put hn
 · refine⟨hs3,Fv.refl _ _,fun g hg _=>?_,fun g hg _=> .inr ?_⟩
   · have:g∈owns (Lt l L .ready none::(Γe++Γc)):=hg
     rw[Dk];simp only[owns,List.flatMap_cons,List.flatMap_append,List.mem_append,List.flatMap_nil,List.append_nil,all]at this⊢;rcases this with h|h|h
     ·exact .inr (.inl h)
     ·exact .inl h
     ·exact .inr (.inr h)
   · have:g∈reads (Lt l L .ready none::(Γe++Γc)):=hg
     rw[Ez];simp only[reads,List.flatMap_cons,List.flatMap_append,List.mem_append,List.flatMap_nil,List.append_nil,all]at this⊢;rcases this with h|h|h
     ·exact .inr (.inl h)
     ·exact .inl h
     ·exact .inr (.inr h)
def mark(D:Nat):Deferred:={target:= .collected D,args:=#[]}
theorem wM{P:Program}{f:FuncId}{args:List Value}{Γ:List Ad}{R:Value→List Ad→Prop}{fn:Func}{c:Code}{n:Nat}
    (hf:P.funcs[f]?=some fn) (hb:fn.body=some c) (hn:fn.ntmps=n) (hl:Nat.ble args.length n=true)
    (h:∀w,To ⟨n,Γ,w,[]⟩ (slotsOf 0 args) Γ (c.wpIn (fe none) 0 P (bodyPost P fn (Fin ⟨n,Γ,w,[]⟩ R)))):Bd P f args Γ R:=
 Bd.enter hf hb hn hl fun w=>To.wide (h w)
theorem wN{P:Program}{f:FuncId}{args:List Value}{Γ:List Ad}{R:Value→List Ad→Prop}{fn:Func}{c:Code}{n:Nat}
    (hf:P.funcs[f]?=some fn) (hb:fn.body=some c) (hn:fn.ntmps=n) (hl:Nat.ble args.length n=true)
    (h:∀w,To ⟨n,Γ,w,[]⟩ (slotsOf 0 args) Γ (c.wp P (bodyPostM Fence.wide 0 P fn (Fin ⟨n,Γ,w,[]⟩ R)))):Bd P f args Γ R:=fun w hs=>by
 refine callsIn_wide.1 (callsIn_of_wp_marks (F:=Fence.wide) (n:=0) hf hb trivial (wpIn_wide.2 ?_) rfl);rw[hn];exact h w _ w (Yd args n hl) (Db.refl hs)
theorem oQ{P:Program}{C:Cx}{ρ:Bj}{Γa Γc:List Ad}{Q:Exit→Act→World→Prop}{g:Operand}{ps:Array Nat}{assign body:Code}{gf:FuncId}{lb:List Value}(Rn Rx:List Ad→Prop)
    (hg:ev ρ g=some (.func (.func gf) #[] lb.toArray)) (hc:Mf P gf=true)
    (h:∀l (L:Loop),L.params=ps→L.assign=assign→L.body=body→Has C.n [] ρ ⟨L.tmps,[]⟩→
     Bd P gf (.func (.yield l) #[] #[]::lb) (Γa++[all (Lt l L .ready none::Γc)]) (fun _ Γ'=>∃Γ2,(Γ'=[all (Lt l L .ready none::Γ2)]∧Rn Γ2)∨(Γ'=[all (Lt l L .done (some .ret)::Γ2)]∧Rx Γ2)))
    (k1:∀D Γ2,Rn Γ2→To ⟨C.n,C.Γ0,C.w0,mark D::C.ds⟩ ρ (dfr D::Γ2) (Q .normal))
    (k2:∀D Γ2,Rx Γ2→To ⟨C.n,C.Γ0,C.w0,mark D::C.ds⟩ ρ (dfr D::Γ2) (Q .ret)):To C ρ (Γa++Γc) ((Code.rangeFunc g ps assign body).wp P Q):=fun a w ha hq=>by
 refine wpIn_wide (n:=0).1 (wpIn_rangeFunc ?_);intro fn _;let L:Loop:={state:= .ready,pending:=none,fn:=fn,tmps:=a.tmps,params:=ps,assign:=assign,body:=body,defers:=w.heap.size}
 have hgv:a.eval g= .func (.func gf) #[] lb.toArray:=ha.sees.eval hg;let W1:=(w.alloc (.deferred (some []))).alloc (.loop L);have p1:Db [] [dfr w.heap.size] w (w.alloc (.deferred (some []))):=kV rfl rfl (World.alloc_heap_new w _);have p2:Db [] [Lt (w.heap.size+1) L .ready none] (w.alloc (.deferred (some []))) W1:=kV (by rw[World.size_alloc];rfl) rfl (by
  have:=World.alloc_heap_new (w.alloc (.deferred (some []))) (.loop L);rw[World.size_alloc]at this;exact this)
 have q1:=hq.trans (p1.add hq.sat);have q2:Db C.Γ0 (Lt (w.heap.size+1) L .ready none::dfr w.heap.size::(Γa++Γc)) C.w0 W1:=q1.trans (p2.add q1.sat);refine⟨w.heap.size+1,[mark w.heap.size],W1,{target:= .fn (.func gf) lb.toArray,args:=#[.func (.yield (w.heap.size+1)) #[] #[]]},W1,gf,
  #[.func (.yield (w.heap.size+1)) #[] #[]]++lb.toArray,W1,?_,?_,fun _ _=>trivial,?_,fun h=>by simp[Fence.wide]at h,?_⟩
 ·exact run_enterLoop_outer _ _ _ _ _
 · simp only[resolve,hgv]
   simp[go_sem]
 ·simp[invoke,go_sem,aS hc]
 · refine callsIn_wide.2 ?_
   have hd:=h (w.heap.size+1) L rfl rfl rfl ⟨ha.size,rfl,fun t v ht=>ha.sees t v ht⟩
   -- the chunks, parted
   have pm:(Lt (w.heap.size+1) L .ready none::dfr w.heap.size::(Γa++Γc)).Perm ((Γa++(Lt (w.heap.size+1) L .ready none::Γc))++[dfr w.heap.size]):=by
    refine((List.Perm.swap _ _ _).trans ?_).trans (List.perm_append_comm (l₁:=[dfr w.heap.size]));exact List.Perm.cons _ List.perm_middle.symm
   have q3:=q2.perm pm;have hs4:sat (Γa++[all (Lt (w.heap.size+1) L .ready none::Γc)]) W1:=by
    have h1:=q3.sat.left;have h2:sat ((Lt (w.heap.size+1) L .ready none::Γc)++Γa) W1:=h1.perm List.perm_append_comm;exact(Yi.2 h2).perm (List.perm_append_comm (l₁:=[_]))
   have e0:#[Value.func (.yield (w.heap.size+1)) #[] #[]]++lb.toArray=(Value.func (.yield (w.heap.size+1)) #[] #[]::lb).toArray:=by simp
   rw[e0];refine(hd W1 hs4).mono ?_;rintro e w3 ⟨v,Γ',rfl,⟨Γ2,hr⟩,hpost⟩
   -- the post over the parted chunks
   have flat:∀(s:LoopState) (pe:Option Code),Db (Γa++[all (Lt (w.heap.size+1) L .ready none::Γc)]) [all (Lt (w.heap.size+1) L s pe::Γ2)] W1 w3→Db C.Γ0 (Lt (w.heap.size+1) L s pe::dfr w.heap.size::Γ2) C.w0 w3:=fun s pe hpost=>by
    have f1:Db (Γa++(Lt (w.heap.size+1) L .ready none::Γc)) (Lt (w.heap.size+1) L s pe::Γ2) W1 w3:=by
     have eo:∀g,g∈owns (Γa++[all (Lt (w.heap.size+1) L .ready none::Γc)])↔g∈owns (Γa++(Lt (w.heap.size+1) L .ready none::Γc)):=fun g=>by rw[Dk,Dk,List.mem_append,List.mem_append];simp[owns,all]
     have er:∀g,g∈reads (Γa++[all (Lt (w.heap.size+1) L .ready none::Γc)])↔g∈reads (Γa++(Lt (w.heap.size+1) L .ready none::Γc)):=fun g=>by rw[Ez,Ez,List.mem_append,List.mem_append];simp[reads,all]
     refine⟨by simpa using Yi.1 hpost.sat,hpost.keeps.mono fun g _ hg=>(eo g).1 hg,fun g hg hl=>(eo g).1 (hpost.own g (by simpa[owns,all]using hg) hl),fun g hg hl=>?_⟩;exact(hpost.rd g (by simpa[reads,all]using hg) hl).imp (eo g).1 (er g).1
    have f2:=q3.trans (f1.frame q3.sat);exact f2.perm (List.Perm.cons _ (List.perm_append_comm (l₂:=[dfr w.heap.size])))
   rcases hr with⟨rfl,hR⟩|⟨rfl,hR⟩
   · have f:=flat _ _ hpost
     have hl:w3.heap[w.heap.size+1]?=some (.loop {L with state:= .ready,pending:=none}):=f.sat.each _ (List.mem_cons_self ..);refine⟨none,_,run_endLoop hl (by simp),?_⟩;refine k1 w.heap.size Γ2 hR _ _ ⟨ha.size,by simp[mark,ha.defers],fun t v ht=>ha.sees t v ht⟩ ?_;have:=f.trans (Qd (c':=Lt (w.heap.size+1) L .exhausted none) f.sat rfl rfl rfl (World.putObj_heap_same (Array.getElem?_eq_some_iff.1 hl).1));exact(this.perm (List.perm_append_comm (l₁:=[_]))).drop
   · have f:=flat _ _ hpost
     have hl:w3.heap[w.heap.size+1]?=some (.loop {L with state:= .done,pending:=some .ret}):=f.sat.each _ (List.mem_cons_self ..);refine⟨some .ret,_,run_endLoop hl (by simp),wpIn_ret ?_⟩;refine k2 w.heap.size Γ2 hR _ _ ⟨ha.size,by simp[mark,ha.defers],fun t v ht=>ha.sees t v ht⟩ ?_;have:=f.trans (Qd (c':=Lt (w.heap.size+1) L .exhausted (some .ret)) f.sat rfl rfl rfl (World.putObj_heap_same (Array.getElem?_eq_some_iff.1 hl).1));exact(this.perm (List.perm_append_comm (l₁:=[_]))).drop
def sO:Bj→Nat→Nat×Value
  |[],k=>(k,undef)
  |(d,v)::r,k=>bif Nat.beq d k then(d,v)else sO r k
def gO:List Ad→Nat→Ad
  |[],_=>all []
  |c::_,0=>c
  |_::r,n+1=>gO r n
section
variable{P:Program}{C:Cx}{ρ ρ':Bj}{Γ Γ' Γ1 Δ:List Ad}{Q:Exit→Act→World→Prop}{ops:Array Oper}{rest:List Oper}{o:Oper}{v:Value}{d n:Nat}{f:FuncId}{vs:List Value}{R:Value→List Ad→Prop}{xs:List Operand}{ts:Array TypeId}{K:Act→World→Prop}{nf:Nat→Bool}
theorem GY:∀{xs:List Operand} {us:List Value},evs ρ xs=some us→us.length=xs.length
  | [],us,h=>by
    unfold evs at h;cases h;rfl
  | x ::r,us,h=>by
    unfold evs at h;split at h
    · rename_i h1 h2
      cases h;rw[List.length_cons,List.length_cons,GY h2]
    ·cases h
theorem Rd.bd{t:TypeId}{parts:List (Nat×Operand)}{us:List Value}(cells:List Value)(ho:o.op= .build t parts.toArray:=by rfl)(hv:evs ρ (parts.map (·.2))=some us:=by rfl)(h:P.built t ((parts.map (·.1)).zip us)=some cells.toArray:=by kernel_rfl):Rd P o ρ Γ (.agg cells.toArray):=by
  have hl:=GY hv;rw[List.length_map]at hl;exact Rd.build (vs:=(parts.map (·.1)).zip us) ho (by rw[hv,List.map_snd_zip (by rw[List.length_map,hl];exact Nat.le_refl _)]) (by rw[List.map_fst_zip (by rw[List.length_map,hl];exact Nat.le_refl _)]) h
theorem bA{p q:Prop}(h:p)(e:p→q:=by intro h;simp only[Bool.or_eq_false_iff,Bool.and_eq_false_iff,Bool.or_eq_true,Bool.and_eq_true,decide_eq_true_eq,decide_eq_false_iff_not]at h;exact h):q:=e h
theorem gg{p q:Prop}(h:q)(e:q→p:=by intro h;first|(simp[h];done)|(simp[h];omega)):p:=e h
theorem gg2{p q r:Prop}(h:q)(i:r)(e:q→r→p:=by intro h i;first|(simp[h,i];done)|(simp[h,i];omega)):p:=e h i
section
variable{T:Tel}{l:List Oper}{Θ:List Ad}{G:Act→World→Prop}{ms:List Ep}{N:News}{i:Nat}{deps:List Nat}
theorem Dl [Kc P nf](is:List Nat)(hc:Bd P f vs Γ1 R)(k:∀v Γ',R v Γ'→(∀w,oks (Γ'++Δ) w→oks Θ w)∧Dt P T l Θ G ms C ((d,v)::ρ) (Γ'++Δ) [])(ho:l[i]?=some o:=by rfl)(hg:o.guard=none:=by rfl)(hd:o.dst=some d:=by rfl)(hn:Nat.blt d C.n=true:=by rfl)(hp:o.op= .call {callee:= .value (.func f),args:=xs.toArray,argTypes:=ts}:=by rfl)(hv:evs ρ xs=some vs:=by rfl)(hf:nf f=true:=by rfl)(hpl:Ui (flat N++Γ) is=some (Γ1,Δ):=by rfl)(hT:T i=none:=by rfl):Dt P T l Θ G (⟨i,deps,5⟩::ms) C ρ Γ N:=Fw.call is ho hg hd hn (Ent.fc hp hv hf) hpl hc k hT
theorem Fw.qf [Kc P nf](hc:Bd P f vs Γ1 (fun v' _=>v'=v))(hs:∀w,oks (avail N deps++Γ) w→oks Γ1 w)(k:Dt P T l Θ G ms C ((d,v)::ρ) Γ N)(ho:l[i]?=some o:=by rfl)(hg:grd l.toArray ρ o=some true:=by rfl)(hd:o.dst=some d:=by rfl)(hn:Nat.blt d C.n=true:=by rfl)(hp:o.op= .call {callee:= .value (.func f),args:=xs.toArray,argTypes:=ts}:=by rfl)(hv:evs ρ xs=some vs:=by rfl)(hf:nf f=true:=by rfl)(hq:owns Γ1=[]:=by rfl)(hT:T i=none:=by rfl):Dt P T l Θ G (⟨i,deps,3⟩::ms) C ρ Γ N:=Oo ho hg hd hn (Ent.fc hp hv hf) hc hq hs k hT
theorem Fw.tf [Kc P nf](hc:Bd P f vs Γ1 R)(hs:∀w,oks (avail N deps++Γ) w→oks Γ1 w)(hr:∀v Γ',R v Γ'→reads Γ'=[])(k:∀v Γ',R v Γ'→Dt P T l Θ G ms C ((d,v)::ρ) Γ ((i,Γ')::N))(ho:l[i]?=some o:=by rfl)(hg:o.guard=none:=by rfl)(hd:o.dst=some d:=by rfl)(hn:Nat.blt d C.n=true:=by rfl)(hnew:N.all (fun m=> !Nat.beq m.1 i)=true:=by rfl)(hp:o.op= .call {callee:= .value (.func f),args:=xs.toArray,argTypes:=ts}:=by rfl)(hv:evs ρ xs=some vs:=by rfl)(hf:nf f=true:=by rfl)(hq:owns Γ1=[]:=by rfl)(hT:T i=some (tQ R):=by rfl):Dt P T l Θ G (⟨i,deps,4⟩::ms) C ρ Γ N:=QH ho hg hd hn hnew (Ent.fc hp hv hf) hc hq hs hr hT k
theorem En{t e:TypeId}{size bytes len:Nat}{zs:List Value}{parts:List (Nat×Operand)}(us:List Value)(k:∀b,Dt P T l Θ G ms C ((d, .slice (some ⟨b,0,none⟩) len len)::ρ) Γ ((i,[row e size (some ⟨b,0,none⟩) len len us])::N))(ho:l[i]?=some o:=by rfl)(hg:o.guard=none:=by rfl)(hd:o.dst=some d:=by rfl)(hn:Nat.blt d C.n=true:=by rfl)(hnew:N.all (fun m=> !Nat.beq m.1 i)=true:=by rfl)(hp:o.op= .buildSlice t len parts.toArray:=by rfl)(ht:Ce P t e size bytes zs:=by exact inferInstance)(hv:evs ρ (parts.map (·.2))=some vs:=by rfl)(hi:parts.map (·.1)=List.range' 0 len:=by rfl)(hlen:Nat.blt 0 len=true:=by rfl)(hsm:Nat.ble (len*size) 16777216=true:=by rfl)(hsz:vs.all (fun v=>Nat.beq v.cells.size size)=true:=by rfl)(hu:(vs.flatMap fun v=>v.cells.toList)=us:=by rfl):Dt P T l Θ G (⟨i,deps,2⟩::ms) C ρ Γ N:=Fw.mk ho hg hd hn hnew (GR hp ht hv hi hlen hsm hsz hu) (by rintro _ _ ⟨b,rfl,rfl⟩;exact k b)
end
theorem Ew{t e:TypeId}{size bytes len:Nat}{zs:List Value}{parts:List (Nat×Operand)}(us:List Value)(k:∀b,To C ((d, .slice (some ⟨b,0,none⟩) len len)::ρ) (row e size (some ⟨b,0,none⟩) len len us::Γ) (wpList P ops Q rest))(hg:grd ops ρ o=some true:=by rfl)(hd:o.dst=some d:=by rfl)(hn:Nat.blt d C.n=true:=by rfl)(hp:o.op= .buildSlice t len parts.toArray:=by rfl)(ht:Ce P t e size bytes zs:=by exact inferInstance)(hv:evs ρ (parts.map (·.2))=some vs:=by rfl)(hi:parts.map (·.1)=List.range' 0 len:=by rfl)(hlen:Nat.blt 0 len=true:=by rfl)(hsm:Nat.ble (len*size) 16777216=true:=by rfl)(hsz:vs.all (fun v=>Nat.beq v.cells.size size)=true:=by rfl)(hu:(vs.flatMap fun v=>v.cells.toList)=us:=by rfl):To C ρ Γ (wpList P ops Q (o::rest)):=Jmk hg hd hn (GR hp ht hv hi hlen hsm hsz hu) (by rintro _ _ ⟨b,rfl,rfl⟩;exact k b)
structure Bq(Γ:List Ad)(b:Nat)(cs:List Value)(t:Nat):Prop where
  h:∃i:Nat,Γ[i]?=some (box b cs t)
theorem Ec{E:List Ad}{fn:Func}{ex:Exit}{t b:Nat}{ty ty':TypeId}{cs:List Value}(is:List Nat)(hres:fn.results=#[.cell t ty]) [ht:Ff P ty n](h:R (.agg cs.toArray) Δ)(hpl:Ui Γ is=some (Δ,E):=by rfl)(hex:ex= .ret∨ex= .normal:=by first|exact .inl rfl|exact .inr rfl)(hv:look ρ t=some (.pointer (some ⟨b,0,none⟩)):=by rfl)(hi:Bq Γ b cs ty':=by(try dsimp only[List.append,List.set,List.eraseIdx,List.cons_append,List.nil_append,kP,kQ,Zq,Zt,List.any,Nat.beq,cond,Bool.or]);exact⟨_,Bx.h⟩)(hl:cs.length=n:=by rfl)(hds:C.ds=[]:=by rfl):To C ρ Γ (bodyPost P fn (Fin C R) ex):=by
  obtain⟨i,hi⟩:=hi.h;exact aHv is hpl hex hres hv hi ht hl h hds
def Mb(C:Cx)(ρ:Bj)(Γ:List Ad)(d:Nat)(e:Bool):Act→World→Prop:=fun a w=>∃t,t=e∧Has C.n C.ds ((d, .bool t)::ρ) a∧Db C.Γ0 Γ C.w0 w
theorem Od{l:List Oper}(ks:List Nat)(d:Nat)(e:Bool)(h:To C ρ Γ (wpList P ops (Exit.then (Mb C ρ' Γ' d e) Q) l))(k:To C ((d, .bool e)::ρ') Γ' K)(hρ:ks.map (sO ρ)=ρ':=by(try dsimp only[List.map,sO,Nat.beq,cond]);(try exact rfl))(hΓ:Γ=Γ':=by(try dsimp only[List.append,List.set,List.eraseIdx,List.cons_append,List.nil_append,kP,kQ,Zq,Zt,List.any,Nat.beq,cond,Bool.or]);(try exact rfl)):To C ρ Γ (wpList P ops (Exit.then K Q) l):=by
  subst hΓ;refine aHu (T:=Bool) (fun t=>((d, .bool t)::ρ',Γ)) (fun t=>t=e) h fun t ht=>?_;subst ht;exact k
theorem Gc{t e:Bool}(ht:look ρ d=some (.bool t))(hp:t=e)(hs:Wd ρ ρ':=by repeat first|exact trivial|refine⟨rfl,?_⟩)(hg:Γ'=Γ:=by rfl):To C ρ Γ (Mb C ρ' Γ' d e):=Jhe (F:=fun t=>((d, .bool t)::ρ',Γ')) (p:=fun t=>t=e) t hp ⟨ht,hs⟩ hg
theorem Il{c:Code}{I':Nat→Bj→List Ad→Prop}{m0:Nat}(I:(Nat→Nat×Value)→(Nat→Ad)→Nat→Bj→List Ad→Prop)(h0:I (sO ρ) (gO Γ) m0 ρ' Γ∧Wd ρ ρ')(round:∀m ρ Γ,I' m ρ Γ→To C ρ Γ (c.wp P (Exit.then (aR C I' m) Q)))(hI:I (sO ρ) (gO Γ)=I':=by(try dsimp only[sO,gO,List.append,List.set,List.eraseIdx,List.cons_append,List.nil_append,kP,kQ,Zq,Zt,List.any,Nat.beq,cond,Bool.or]);(try exact rfl)):To C ρ Γ ((Code.loop c).wp P Q):=Ju ρ' h0.2 (To.loop I' m0 (hI▸h0.1) round)
def Pm(Γ Γ':List Ad):Prop:=∃Δ,Γ.Perm (Γ'++Δ)
def Pk(c:Ad)(Γ Γ':List Ad):Prop:=Γ.Perm (c::Γ')
theorem aIn:Pm Γ []:=⟨Γ,List.Perm.refl _⟩
theorem aDd{c:Ad}:Pk c (c::Γ) Γ:=List.Perm.refl _
theorem Pk.zs{c e:Ad}(h:Pk c Γ Γ1):Pk c (e::Γ) (e::Γ1):=(List.Perm.cons e h).trans (List.Perm.swap c e Γ1)
theorem aIo{c:Ad}(h:Pk c Γ Γ1)(k:Pm Γ1 Γ'):Pm Γ (c::Γ'):=by
  obtain⟨Δ,k⟩:=k;exact⟨Δ,h.trans (List.Perm.cons c k)⟩
theorem QR(hp:Pm Γ Γ')(k:To C ρ Γ' K):To C ρ Γ K:=by
  obtain⟨Δ,hp⟩:=hp;exact bz hp k.drop
theorem Pm.go(h:Pm Γ Γ':=by(try dsimp only[gO,List.append,List.set,List.eraseIdx,List.cons_append,List.nil_append,kP,kQ,Zq,Zt,List.any,Nat.beq,cond,Bool.or]);repeat first|exact aIn|(apply aIo;focus (first|with_reducible ((repeat first|exact aDd|apply Pk.zs);done)|((repeat first|exact aDd|apply Pk.zs);done)))):Pm Γ Γ':=h
theorem Dc{I:Nat→Bj→List Ad→Prop}{m k:Nat}(h:I k ρ' Γ∧Wd ρ ρ')(hk:k<m:=by exact om):To C ρ Γ (aR C I m):=QB k hk h
theorem Bp{I:Nat→Bj→List Ad→Prop}{m k:Nat}(h:I k ρ' Γ'∧Wd ρ ρ')(hk:k<m:=by exact om)(hp:Pm Γ Γ':=by exact Pm.go):To C ρ Γ (aR C I m):=QR hp (QB k hk h)
theorem Md{T:Type}{F:T→Bj×List Ad}{p:T→Prop}(t:T)(hp:p t)(hs:Wd ρ (F t).1:=by exact sb)(hg:Pm Γ (F t).2:=by dsimp only;exact Pm.go):To C ρ Γ (fun a w=>∃t,p t∧Has C.n C.ds (F t).1 a∧Db C.Γ0 (F t).2 C.w0 w):=QR hg (Jhe t hp hs rfl)
theorem Bw{c:Code}{I':Nat→Bj→List Ad→Prop}{m0:Nat}(I:(Nat→Nat×Value)→(Nat→Ad)→Nat→Bj→List Ad→Prop)(h0:I (sO ρ) (gO Γ) m0 ρ' Γ'∧Wd ρ ρ')(round:∀m ρ Γ,I' m ρ Γ→To C ρ Γ (c.wp P (Exit.then (aR C I' m) Q)))(hI:I (sO ρ) (gO Γ)=I':=by(try dsimp only[sO,gO,List.append,List.set,List.eraseIdx,List.cons_append,List.nil_append,kP,kQ,Zq,Zt,List.any,Nat.beq,cond,Bool.or]);(try exact rfl))(hp:Pm Γ Γ':=by exact Pm.go):To C ρ Γ ((Code.loop c).wp P Q):=QR hp (Ju ρ' h0.2 (To.loop I' m0 (hI▸h0.1) round))
theorem dx(k:To C ρ Γ' K)(h:Γ=Γ':=by(try dsimp only[List.append,List.set,List.eraseIdx,List.cons_append,List.nil_append,kP,kQ,Zq,Zt,List.any,Nat.beq,cond,Bool.or]);(try exact rfl)):To C ρ Γ K:=h▸k
end
end Go.Sep

/- Own text. -/
import Derived.Test.YtihgdnjkofpgiaaGreatDoorL2
import Derived.ChangeKeysEq
import Derived.ArgAppend
import Derived.Lib.AppendZeros
import Derived.RangeFuncIn
import Derived.RangeFuncRecord
import Derived.RangeFuncLeaves
import Derived.OrdersIn
import Derived.TacticsIn
set_option linter.unusedVariables false
set_option linter.unusedSimpArgs false
namespace Go.Sep
open Go.RowKit Go.Flow Go.Mem
section
variable{P:Program}{o:Oper}{ρ:Bo}{Γ:List Ad}{x y:Operand}
structure aOw(P:Program)(K:TypeId):Prop where
 und:∃e i,P.underlying K=some (.array 2 e)∧P.underlying e=some (.int .i64)∧P.info? e=some i∧P.cellsOf e=1
 guard:P.eqGuardType P.depth K=false
end
theorem qN{zs:List Value}{s:Nat}(hs:zs.length=s)(hp:0<s):∀(n k:Nat),(List.replicate n zs).flatten[k]?=if k<n*s then zs[k%s]? else none
 |0,k=>by simp
 | n +1,k=>by
   rw[List.replicate_succ,List.flatten_cons,List.getElem?_append,hs];split
   · rename_i h
     rw[aPr (by rw[Nat.add_mul,Nat.one_mul];omega),Nat.mod_eq_of_lt h]
   · rename_i h
     rw[qN hs hp n (k-s),Nat.add_mul,Nat.one_mul];have e:(k-s)%s=k%s:=by
      conv=>rhs;rw[show k=(k-s)+s by omega,Nat.add_mod_right]
     by_cases h2:k-s<n*s
     ·rw[aPr h2,aPr om,e]
     ·rw[aPf h2,aPf om]
theorem Wu(zs:List Value)(n s:Nat)(hs:zs.length=s)(hp:0<s):(madeCells zs.toArray (n*s)).toList=(List.replicate n zs).flatten:=by
 apply List.ext_getElem?;intro k;rw[qN hs hp];unfold madeCells;by_cases hk:k<n*s
 · have h1:k%s<zs.length:=by rw[hs];exact Nat.mod_lt _ hp
   simp only[List.size_toArray,Array.toList_map,Array.toList_range,aPs,List.getElem?_range hk,Option.map_some,hs,aPr hk];rw[gge h1];simp[h1]
 ·simp[hk]
section
variable{P:Program}{o:Oper}{ρ:Bo}{Γ:List Ad}{x y:Operand}{t:TypeId}
theorem Nr{α:Type}{enc:α→List Value}{z:α}{e:TypeId}{bytes n size:Nat}{kl kc:IntKind}(hz:(enc z).length=size)(hp:0<size)(ho:o.op= .makeSlice t x y)(ht:Cj P t e size bytes (enc z))(hx:ev ρ x=some (.int kl (n:Int)))(hy:ev ρ y=some (.int kc (n:Int)))(hb:bytes*n≤281474976710656)(hc:n≤maxLen):
    Mk P o ρ Γ (fun v N=>∃b,v= .slice (some ⟨b,0,none⟩) (List.replicate n z).length n∧N=[rows enc e size (some ⟨b,0,none⟩) n (List.replicate n z)]):=by
 have h:=kY (P:=P) (Γ:=Γ) ho ht hx hy hb hc;intro a w ha hs;obtain⟨v,N,w',h1,⟨b,h2,h3⟩,h4⟩:=h a w ha hs;refine⟨v,N,w',h1,⟨b,by rw[h2,aQj],?_⟩,h4⟩;rw[h3,Wu _ n size hz hp];unfold rows;rw[aQj];rw[List.flatMap_def,List.map_replicate]
end
variable{C:Cx}{ρ:Bo}{K:Act→World→Prop}{Γ:List Ad}{c:Ad}
theorem Lh{c0:Ad}(k:To C ρ (c::c0::Γ) K):To C ρ (c0::c::Γ) K:=cz (aPv (l₁:=[c0])) k
theorem Ih{c0 c1:Ad}(k:To C ρ (c::c0::c1::Γ) K):To C ρ (c0::c1::c::Γ) K:=cz (aPv (l₁:=[c0,c1])) k
theorem Fv{c0 c1 c2:Ad}(k:To C ρ (c::c0::c1::c2::Γ) K):To C ρ (c0::c1::c2::c::Γ) K:=cz (aPv (l₁:=[c0,c1,c2])) k
theorem Nz{c0 c1 c2 c3:Ad}(k:To C ρ (c::c0::c1::c2::c3::Γ) K):To C ρ (c0::c1::c2::c3::c::Γ) K:=cz (aPv (l₁:=[c0,c1,c2,c3])) k
theorem Ns{c0 c1 c2 c3 c4:Ad}(k:To C ρ (c::c0::c1::c2::c3::c4::Γ) K):To C ρ (c0::c1::c2::c3::c4::c::Γ) K:=cz (aPv (l₁:=[c0,c1,c2,c3,c4])) k
theorem lG{c0 c1 c2 c3 c4 c5:Ad}(k:To C ρ (c::c0::c1::c2::c3::c4::c5::Γ) K):To C ρ (c0::c1::c2::c3::c4::c5::c::Γ) K:=cz (aPv (l₁:=[c0,c1,c2,c3,c4,c5])) k
theorem Zx{c0 c1 c2 c3 c4 c5 c6:Ad}(k:To C ρ (c::c0::c1::c2::c3::c4::c5::c6::Γ) K):To C ρ (c0::c1::c2::c3::c4::c5::c6::c::Γ) K:=cz (aPv (l₁:=[c0,c1,c2,c3,c4,c5,c6])) k
theorem aJf{c0 c1 c2 c3 c4 c5 c6 c7:Ad}(k:To C ρ (c::c0::c1::c2::c3::c4::c5::c6::c7::Γ) K):To C ρ (c0::c1::c2::c3::c4::c5::c6::c7::c::Γ) K:=cz (aPv (l₁:=[c0,c1,c2,c3,c4,c5,c6,c7])) k
theorem aFt{c0 c1 c2 c3 c4 c5 c6 c7 c8:Ad}(k:To C ρ (c::c0::c1::c2::c3::c4::c5::c6::c7::c8::Γ) K):To C ρ (c0::c1::c2::c3::c4::c5::c6::c7::c8::c::Γ) K:=cz (aPv (l₁:=[c0,c1,c2,c3,c4,c5,c6,c7,c8])) k
theorem lH{c0 c1 c2 c3 c4 c5 c6 c7 c8 c9:Ad}(k:To C ρ (c::c0::c1::c2::c3::c4::c5::c6::c7::c8::c9::Γ) K):To C ρ (c0::c1::c2::c3::c4::c5::c6::c7::c8::c9::c::Γ) K:=cz (aPv (l₁:=[c0,c1,c2,c3,c4,c5,c6,c7,c8,c9])) k
theorem Rf{c0 c1 c2 c3 c4 c5 c6 c7 c8 c9 c10:Ad}(k:To C ρ (c::c0::c1::c2::c3::c4::c5::c6::c7::c8::c9::c10::Γ) K):To C ρ (c0::c1::c2::c3::c4::c5::c6::c7::c8::c9::c10::c::Γ) K:=cz (aPv (l₁:=[c0,c1,c2,c3,c4,c5,c6,c7,c8,c9,c10])) k
theorem aEe{c0 c1 c2 c3 c4 c5 c6 c7 c8 c9 c10 c11:Ad}(k:To C ρ (c::c0::c1::c2::c3::c4::c5::c6::c7::c8::c9::c10::c11::Γ) K):To C ρ (c0::c1::c2::c3::c4::c5::c6::c7::c8::c9::c10::c11::c::Γ) K:=cz (aPv (l₁:=[c0,c1,c2,c3,c4,c5,c6,c7,c8,c9,c10,c11])) k
theorem RO{c0 c1 c2 c3 c4 c5 c6 c7 c8 c9 c10 c11 c12:Ad}(k:To C ρ (c::c0::c1::c2::c3::c4::c5::c6::c7::c8::c9::c10::c11::c12::Γ) K):To C ρ (c0::c1::c2::c3::c4::c5::c6::c7::c8::c9::c10::c11::c12::c::Γ) K:=cz (aPv (l₁:=[c0,c1,c2,c3,c4,c5,c6,c7,c8,c9,c10,c11,c12])) k
theorem IV{c0 c1 c2 c3 c4 c5 c6 c7 c8 c9 c10 c11 c12 c13:Ad}(k:To C ρ (c::c0::c1::c2::c3::c4::c5::c6::c7::c8::c9::c10::c11::c12::c13::Γ) K):To C ρ (c0::c1::c2::c3::c4::c5::c6::c7::c8::c9::c10::c11::c12::c13::c::Γ) K:=cz (aPv (l₁:=[c0,c1,c2,c3,c4,c5,c6,c7,c8,c9,c10,c11,c12,c13])) k
theorem qO{c0 c1 c2 c3 c4 c5 c6 c7 c8 c9 c10 c11 c12 c13 c14:Ad}(k:To C ρ (c::c0::c1::c2::c3::c4::c5::c6::c7::c8::c9::c10::c11::c12::c13::c14::Γ) K):To C ρ (c0::c1::c2::c3::c4::c5::c6::c7::c8::c9::c10::c11::c12::c13::c14::c::Γ) K:=cz (aPv (l₁:=[c0,c1,c2,c3,c4,c5,c6,c7,c8,c9,c10,c11,c12,c13,c14])) k
theorem RP{c0 c1 c2 c3 c4 c5 c6 c7 c8 c9 c10 c11 c12 c13 c14 c15:Ad}(k:To C ρ (c::c0::c1::c2::c3::c4::c5::c6::c7::c8::c9::c10::c11::c12::c13::c14::c15::Γ) K):To C ρ (c0::c1::c2::c3::c4::c5::c6::c7::c8::c9::c10::c11::c12::c13::c14::c15::c::Γ) K:=cz (aPv (l₁:=[c0,c1,c2,c3,c4,c5,c6,c7,c8,c9,c10,c11,c12,c13,c14,c15])) k
theorem IW{c0 c1 c2 c3 c4 c5 c6 c7 c8 c9 c10 c11 c12 c13 c14 c15 c16 c17:Ad}(k:To C ρ (c::c0::c1::c2::c3::c4::c5::c6::c7::c8::c9::c10::c11::c12::c13::c14::c15::c16::c17::Γ) K):To C ρ (c0::c1::c2::c3::c4::c5::c6::c7::c8::c9::c10::c11::c12::c13::c14::c15::c16::c17::c::Γ) K:=cz (aPv (l₁:=[c0,c1,c2,c3,c4,c5,c6,c7,c8,c9,c10,c11,c12,c13,c14,c15,c16,c17])) k
theorem xJ{c0 c1 c2 c3 c4 c5 c6 c7 c8 c9 c10 c11 c12 c13 c14 c15 c16 c17 c18:Ad}(k:To C ρ (c::c0::c1::c2::c3::c4::c5::c6::c7::c8::c9::c10::c11::c12::c13::c14::c15::c16::c17::c18::Γ) K):To C ρ (c0::c1::c2::c3::c4::c5::c6::c7::c8::c9::c10::c11::c12::c13::c14::c15::c16::c17::c18::c::Γ) K:=cz (aPv (l₁:=[c0,c1,c2,c3,c4,c5,c6,c7,c8,c9,c10,c11,c12,c13,c14,c15,c16,c17,c18])) k
theorem aEf{c0 c1 c2 c3 c4 c5 c6 c7 c8 c9 c10 c11 c12 c13 c14 c15 c16 c17 c18 c19 c20:Ad}(k:To C ρ (c::c0::c1::c2::c3::c4::c5::c6::c7::c8::c9::c10::c11::c12::c13::c14::c15::c16::c17::c18::c19::c20::Γ) K):To C ρ (c0::c1::c2::c3::c4::c5::c6::c7::c8::c9::c10::c11::c12::c13::c14::c15::c16::c17::c18::c19::c20::c::Γ) K:=cz (aPv (l₁:=[c0,c1,c2,c3,c4,c5,c6,c7,c8,c9,c10,c11,c12,c13,c14,c15,c16,c17,c18,c19,c20])) k
theorem Cq(k:To C ρ (Γ) K):To C ρ (c::Γ) K:=cz (aPv (l₁:=[])) (cz (aQc (l₁:=[c])) (To.drop k))
theorem Cr{c0:Ad}(k:To C ρ (c0::Γ) K):To C ρ (c0::c::Γ) K:=cz (aPv (l₁:=[c0])) (cz (aQc (l₁:=[c])) (To.drop k))
theorem Ck{c0 c1:Ad}(k:To C ρ (c0::c1::Γ) K):To C ρ (c0::c1::c::Γ) K:=cz (aPv (l₁:=[c0,c1])) (cz (aQc (l₁:=[c])) (To.drop k))
theorem Da{c0 c1 c2:Ad}(k:To C ρ (c0::c1::c2::Γ) K):To C ρ (c0::c1::c2::c::Γ) K:=cz (aPv (l₁:=[c0,c1,c2])) (cz (aQc (l₁:=[c])) (To.drop k))
theorem Dr{c0 c1 c2 c3:Ad}(k:To C ρ (c0::c1::c2::c3::Γ) K):To C ρ (c0::c1::c2::c3::c::Γ) K:=cz (aPv (l₁:=[c0,c1,c2,c3])) (cz (aQc (l₁:=[c])) (To.drop k))
theorem Gr{c0 c1 c2 c3 c4:Ad}(k:To C ρ (c0::c1::c2::c3::c4::Γ) K):To C ρ (c0::c1::c2::c3::c4::c::Γ) K:=cz (aPv (l₁:=[c0,c1,c2,c3,c4])) (cz (aQc (l₁:=[c])) (To.drop k))
theorem Ko{c0 c1 c2 c3 c4 c5:Ad}(k:To C ρ (c0::c1::c2::c3::c4::c5::Γ) K):To C ρ (c0::c1::c2::c3::c4::c5::c::Γ) K:=cz (aPv (l₁:=[c0,c1,c2,c3,c4,c5])) (cz (aQc (l₁:=[c])) (To.drop k))
theorem Xq{c0 c1 c2 c3 c4 c5 c6:Ad}(k:To C ρ (c0::c1::c2::c3::c4::c5::c6::Γ) K):To C ρ (c0::c1::c2::c3::c4::c5::c6::c::Γ) K:=cz (aPv (l₁:=[c0,c1,c2,c3,c4,c5,c6])) (cz (aQc (l₁:=[c])) (To.drop k))
theorem qP{c0 c1 c2 c3 c4 c5 c6 c7:Ad}(k:To C ρ (c0::c1::c2::c3::c4::c5::c6::c7::Γ) K):To C ρ (c0::c1::c2::c3::c4::c5::c6::c7::c::Γ) K:=cz (aPv (l₁:=[c0,c1,c2,c3,c4,c5,c6,c7])) (cz (aQc (l₁:=[c])) (To.drop k))
class Bx(Γ:List Ad)(b:Nat)(i:outParam Nat)(cs:outParam (List Value))(t:outParam Nat):Prop where h:Γ[i]?=some (box b cs t)
instance Bx.s{Γ:List Ad}{c:Ad}{b i t:Nat}{cs:List Value} [h:Bx Γ b i cs t]:Bx (c::Γ) b (i+1) cs t:=⟨h.h⟩
instance Bx.o{Γ:List Ad}{b t:Nat}{cs:List Value}:Bx (box b cs t::Γ) b 0 cs t:=⟨rfl⟩
class Ro(Γ:List Ad)(A:OA)(α:outParam Type)(enc:outParam (α→List Value))(l:outParam (List α)):Prop where h:∃i:Nat,Γ[i]?=some (ros enc A l)
instance Ro.s{Γ:List Ad}{c:Ad}{A:OA}{α:Type}{enc:α→List Value}{l:List α} [h:Ro Γ A α enc l]:Ro (c::Γ) A α enc l:=⟨h.h.elim fun i h=>⟨i+1,h⟩⟩
instance Ro.o{Γ:List Ad}{A:OA}{α:Type}{enc:α→List Value}{l:List α}:Ro (ros enc A l::Γ) A α enc l:=⟨0,rfl⟩
class Rr(Γ:List Ad)(A:OA)(α:outParam Type)(enc:outParam (α→List Value))(e size cap:outParam Nat)(l:outParam (List α)):Prop where h:∃i:Nat,Γ[i]?=some (rows enc e size A cap l)
instance Rr.s{Γ:List Ad}{c:Ad}{A:OA}{α:Type}{enc:α→List Value}{e size cap:Nat}{l:List α} [h:Rr Γ A α enc e size cap l]:Rr (c::Γ) A α enc e size cap l:=⟨h.h.elim fun i h=>⟨i+1,h⟩⟩
instance Rr.o{Γ:List Ad}{A:OA}{α:Type}{enc:α→List Value}{e size cap:Nat}{l:List α}:Rr (rows enc e size A cap l::Γ) A α enc e size cap l:=⟨0,rfl⟩
theorem lI:flat []=[]:=rfl
theorem lJ{i:Nat}{c:List Ad}{N:News}:flat ((i,c)::N)=c++flat N:=rfl
theorem aN{d:List Nat}:avail [] d=[]:=rfl
theorem aO{i:Nat}{c:List Ad}{N:News}{d:List Nat}:avail ((i,c)::N) d=(bif d.any (Nat.beq i)then c else [])++avail N d:=rfl
theorem nrm{α:Sort _}{a b:α}(h:a=b:=by(try dsimp only[List.set,List.eraseIdx,List.cons_append,List.nil_append,lI,lJ,aN,aO,List.any,Nat.beq,cond,Bool.or]);(try exact rfl)):a=b:=h
section
variable{P:Program}{o:Oper}{ρ:Bo}{Γ Γ':List Ad}{x y z:Operand}{u v:Value}
theorem RQ{ty b off i t:Nat}{cs:List Value}(ho:o.op= .load ty x)(hx:ev ρ x=some (.pointer (some ⟨b,off,none⟩))) [ht:Ci P ty] [hi:Bx Γ b i cs t](hu:cs[off]?=some v:=by rfl):Rd P o ρ Γ v:=Cu ho hx ht hi.h (bg1 hu)
theorem DT{ty b i t n:Nat}{cs:List Value}(ho:o.op= .load ty x)(hx:ev ρ x=some (pv b)) [ht:Fu P ty n] [hi:Bx Γ b i cs t](hu:cs.length=n:=by rfl):Rd P o ρ Γ (.agg cs.toArray):=Pg ho hx ht hi.h Zb hu
section
variable{α:Type}{enc:α→List Value}{size t e bytes cap j ty f:Nat}{zs:List Value}{A:OA}{l:List α}{k:IntKind}{el:α}
theorem DU(ho:o.op= .indexAddr t x y)(hx:ev ρ x=some (.slice A l.length cap))(hy:ev ρ y=some (.int k j)) [ht:Cj P t e size bytes zs] [hr:Ro Γ A α enc l] [hE:Enc enc size](hj:l[j]?=some el:=by assumption):Rd P o ρ Γ (.pointer (some ⟨blk A,ofs A+j*size,none⟩)):=by
 obtain⟨i,hi⟩:=hr.h;exact aFq hE ho hx hy ht hi hj
theorem DV{ie:Nat}(ho:o.op= .indexAddr t x y)(hx:ev ρ x=some (.slice A l.length cap))(hy:ev ρ y=some (.int k j)) [ht:Cj P t e size bytes zs] [hr:Rr Γ A α enc ie size cap l](hj:l[j]?=some el:=by assumption):Rd P o ρ Γ (.pointer (some ⟨blk A,ofs A+j*size,none⟩)):=by
 obtain⟨i,hi⟩:=hr.h;exact Lc ho hx hy ht hi hj
theorem DW(ho:o.op= .load ty x)(hx:ev ρ x=some (.pointer (some ⟨blk A,ofs A+j*size,none⟩))) [ht:Fu P ty size] [hr:Ro Γ A α enc l] [hE:Enc enc size](hj:l[j]?=some el:=by assumption):Rd P o ρ Γ (.agg (enc el).toArray):=by
 obtain⟨i,hi⟩:=hr.h;exact Pg ho hx ht hi (rsg hE hj) (hE.len _)
theorem DX{ie:Nat}(ho:o.op= .load ty x)(hx:ev ρ x=some (.pointer (some ⟨blk A,ofs A+j*size,none⟩))) [ht:Fu P ty size] [hr:Rr Γ A α enc ie size cap l] [hE:Enc enc size](hj:l[j]?=some el:=by assumption):Rd P o ρ Γ (.agg (enc el).toArray):=by
 obtain⟨i,hi⟩:=hr.h;exact Pg ho hx ht hi (rwg hE hj) (hE.len _)
theorem DY(ho:o.op= .load ty x)(hx:ev ρ x=some (.pointer (some ⟨blk A,ofs A+j*size+f,none⟩))) [ht:Ci P ty] [hr:Ro Γ A α enc l] [hE:Enc enc size](hj:l[j]?=some el:=by assumption)(hu:(enc el)[f]?=some v:=by rfl):Rd P o ρ Γ v:=by
 obtain⟨i,hi⟩:=hr.h;exact Cu ho hx ht hi (gvt (rsg hE hj) hu)
theorem DZ{ie:Nat}(ho:o.op= .load ty x)(hx:ev ρ x=some (.pointer (some ⟨blk A,ofs A+j*size+f,none⟩))) [ht:Ci P ty] [hr:Rr Γ A α enc ie size cap l] [hE:Enc enc size](hj:l[j]?=some el:=by assumption)(hu:(enc el)[f]?=some v:=by rfl):Rd P o ρ Γ v:=by
 obtain⟨i,hi⟩:=hr.h;exact Cu ho hx ht hi (gvt (rwg hE hj) hu)
theorem EA(ho:o.op= .load ty x)(hx:ev ρ x=some (.pointer (some ⟨blk A,ofs A+j*size,none⟩))) [ht:Ci P ty] [hr:Ro Γ A α enc l] [hE:Enc enc size](hj:l[j]?=some el:=by assumption)(hu:enc el=[v]:=by rfl):Rd P o ρ Γ v:=by
 obtain⟨i,hi⟩:=hr.h;exact Cu ho hx ht hi (Eu (rsg hE hj) hu)
theorem EB{ie:Nat}(ho:o.op= .load ty x)(hx:ev ρ x=some (.pointer (some ⟨blk A,ofs A+j*size,none⟩))) [ht:Ci P ty] [hr:Rr Γ A α enc ie size cap l] [hE:Enc enc size](hj:l[j]?=some el:=by assumption)(hu:enc el=[v]:=by rfl):Rd P o ρ Γ v:=by
 obtain⟨i,hi⟩:=hr.h;exact Cu ho hx ht hi (Eu (rwg hE hj) hu)
end
theorem Rd.ft{s f k b off:Nat}{ks:List Nat}(ho:o.op= .fieldAddr s x f)(hx:ev ρ x=some (.pointer (some ⟨b,off,none⟩))) [hf:Jw P s ks](hk:ks[f]?=some k:=by rfl):Rd P o ρ Γ (.pointer (some ⟨b,off+k,none⟩)):=Rd.field ho hx (hf.ft hk)
theorem Rd.ln{A:OA}{n c t e s b:Nat}{zs:List Value}(ho:o.op= .call {callee:= .builtin .len,args:=#[x],argTypes:=#[t]})(hx:ev ρ x=some (.slice A n c)) [ht:Cj P t e s b zs]:Rd P o ρ Γ (.int .i64 n):=Rd.len ho hx ht.und
theorem rda(h:Rd P o ρ Γ v:=by first|exact dz rfl rfl|exact Rd.ft rfl rfl|exact Rd.nilCheck rfl rfl|exact Rd.assign rfl rfl|exact Rd.ln rfl rfl|exact Rd.eql rfl rfl rfl|exact Rd.neq rfl rfl rfl|exact Rd.lss rfl rfl rfl|exact Rd.leq rfl rfl rfl|exact Rd.gtr rfl rfl rfl|exact Rd.geq rfl rfl rfl|exact kX rfl rfl rfl|exact kW rfl rfl rfl|exact QZ rfl rfl rfl om|exact Rd.extract rfl rfl rfl|exact Rd.not rfl rfl):Rd P o ρ Γ v:=h
end
structure Zs(n:Nat)(G:Prop):Prop where
 go:G
section
variable{H:Prop}{n:Nat}{P:Program}{C:Cx}{ρ:Bo}{Γ Γ':List Ad}{K:Act→World→Prop}{Q Q':Exit→Act→World→Prop}{ops:Array Oper}{rest:List Oper}{o:Oper}{v:Value}{d:Nat}{X Y:Code}{id:Nat}
structure Kp(G:Prop):Prop where
 go:G
theorem aJh{G:Prop}(k:Kp G):Zs 0 G:=⟨k.go⟩
theorem Zs.nm(h:Γ=Γ')(k:Zs n (To C ρ Γ' K)):Zs n (To C ρ Γ K):=by rw[h];exact k
theorem Zs.k(k:Zs n (To C ((d,undef)::ρ) Γ (wpList P ops Q rest)))(hg:grd ops ρ o=some false:=by rfl)(hd:o.dst=some d:=by rfl)(hn:Nat.blt d C.n=true:=by rfl):Zs (n+1) (To C ρ Γ (wpList P ops Q (o::rest))):=⟨Jsk hg hd hn k.go⟩
theorem lK(h:Rd P o ρ Γ v)(k:Zs n (To C ((d,v)::ρ) Γ (wpList P ops Q rest)))(hg:grd ops ρ o=some true:=by rfl)(hd:o.dst=some d:=by rfl)(hn:Nat.blt d C.n=true:=by rfl):Zs (n+1) (To C ρ Γ (wpList P ops Q (o::rest))):=⟨To.rd hg hd hn h k.go⟩
theorem aJi(k:Zs n (To C ρ Γ (Q .normal))):Zs (n+1) (To C ρ Γ (wpList P ops Q [])):=⟨k.go⟩
theorem Zs.t(k:Zs n (To C ρ Γ K)):Zs (n+1) (To C ρ Γ (Exit.then K Q' .normal)):=⟨k.go⟩
theorem Zs.tx(k:Zs n (To C ρ Γ (Q (.exit id)))):Zs (n+1) (To C ρ Γ (Exit.then K Q (.exit id))):=⟨k.go⟩
theorem Zs.tr(k:Zs n (To C ρ Γ (Q .ret))):Zs (n+1) (To C ρ Γ (Exit.then K Q .ret)):=⟨k.go⟩
theorem aJj(k:Zs n (To C ρ Γ (Q .normal))):Zs (n+1) (To C ρ Γ (Exit.inBlock id Q .normal)):=⟨k.go⟩
theorem aJk(k:Zs n (To C ρ Γ (Q .ret))):Zs (n+1) (To C ρ Γ (Exit.inBlock id Q .ret)):=⟨k.go⟩
theorem aJl(k:Zs n (To C ρ Γ (Q .normal))):Zs (n+1) (To C ρ Γ (Exit.inBlock id Q (.exit id))):=⟨Jbx k.go⟩
theorem aJm{i:Nat}(k:Zs n (To C ρ Γ (Q (.exit i))))(hne:Nat.beq i id=false:=by rfl):Zs (n+1) (To C ρ Γ (Exit.inBlock id Q (.exit i))):=⟨IQ hne k.go⟩
theorem Zs.q(k:Zs n (To C ρ Γ (X.wp P (Exit.then (Y.wp P Q) Q)))):Zs (n+1) (To C ρ Γ ((Code.seq X Y).wp P Q)):=⟨Js k.go⟩
theorem Zs.g{l:List Oper}(k:Zs n (To C ρ Γ (wpList P l.toArray Q l))):Zs (n+1) (To C ρ Γ ((Code.region id l.toArray false).wp P Q)):=⟨dh k.go⟩
theorem Zs.b(k:Zs n (To C ρ Γ (X.wp P (Exit.inBlock id Q)))):Zs (n+1) (To C ρ Γ ((Code.block id X).wp P Q)):=⟨To.b k.go⟩
theorem aJn(k:Zs n (To C ρ Γ (Q .normal))):Zs (n+1) (To C ρ Γ (Code.skip.wp P Q)):=⟨Jsp k.go⟩
theorem aJo(k:Zs n (To C ρ Γ (Q (.exit id)))):Zs (n+1) (To C ρ Γ ((Code.exit id).wp P Q)):=⟨Jex k.go⟩
theorem aJp(k:Zs n (To C ρ Γ (Q .ret))):Zs (n+1) (To C ρ Γ (Code.ret.wp P Q)):=⟨Jrt k.go⟩
theorem aJq{c:Operand}(k:Zs n (To C ρ Γ (X.wp P Q)))(hc:ev ρ c=some (.bool true):=by rfl):Zs (n+1) (To C ρ Γ ((Code.cond c X Y).wp P Q)):=⟨Ll hc k.go⟩
theorem aJr{c:Operand}(k:Zs n (To C ρ Γ (Y.wp P Q)))(hc:ev ρ c=some (.bool false):=by rfl):Zs (n+1) (To C ρ Γ ((Code.cond c X Y).wp P Q)):=⟨DF hc k.go⟩
theorem Zs.u{x y:Operand}{ty b i t m:Nat}{us cs:List Value}(ho:o.op= .store ty x y)(hx:ev ρ x=some (pv b))(hy:ev ρ y=some (.agg us.toArray)) [ht:Fu P ty m] [hi:Bx Γ b i cs t](k:Zs n (To C ρ (Γ.set i (box b us t)) (wpList P ops Q rest)))(hg:grd ops ρ o=some true:=by rfl)(hd:o.dst=none:=by rfl)(hl:us.length=m:=by rfl)(hv:us.all (·.oneCell')=true:=by rfl)(hc:us.length=cs.length:=by rfl):Zs (n+1) (To C ρ Γ (wpList P ops Q (o::rest))):=⟨Jup hg hd (Co ho hx hy ht hl hv hi.h (bta hc)) k.go⟩
theorem aJs{x y:Operand}{ty b off i t:Nat}{cs:List Value}(ho:o.op= .store ty x y)(hx:ev ρ x=some (.pointer (some ⟨b,off,none⟩)))(hy:ev ρ y=some v) [ht:Ci P ty] [hi:Bx Γ b i cs t](k:Zs n (To C ρ (Γ.set i (box b (cs.set off v) t)) (wpList P ops Q rest)))(hg:grd ops ρ o=some true:=by rfl)(hd:o.dst=none:=by rfl)(hv:v.oneCell'=true:=by rfl)(hc:Nat.blt off cs.length=true:=by rfl):Zs (n+1) (To C ρ Γ (wpList P ops Q (o::rest))):=⟨Jup hg hd (df ho hx hy ht hv hi.h (bt1 hc)) k.go⟩
section
variable{T:Tel}{l:List Oper}{Θ:List Ad}{R:Act→World→Prop}{ms:List Ez}{N:News}{i kd:Nat}{deps:List Nat}
theorem Xr(ho:l[i]?=some o)(h:Rd P o ρ Θ v)(k:Zs n (Ea P T l Θ R ms C ((d,v)::ρ) Γ N))(hg:grd l.toArray ρ o=some true:=by rfl)(hd:o.dst=some d:=by rfl)(hn:Nat.blt d C.n=true:=by rfl):Zs (n+1) (Ea P T l Θ R (⟨i,deps,0⟩::ms) C ρ Γ N):=⟨Oi ho hg hd hn h k.go⟩
structure FlR(Δ:List Ad)(P:Program)(T:Tel)(l:List Oper)(Θ:List Ad)(R:Act→World→Prop)(ms:List Ez)(C:Cx)(ρ:Bo)(Γ:List Ad)(N:News)(o:Oper):Prop where
 go:∃v d,Rd P o ρ Δ v∧grd l.toArray ρ o=some true∧o.dst=some d∧Nat.blt d C.n=true∧Ea P T l Θ R ms C ((d,v)::ρ) Γ N
theorem aJt{Δ:List Ad}(ho:l[i]?=some o)(hn:avail N deps++Γ=Δ)(k:Zs (n+1) (FlR Δ P T l Θ R ms C ρ Γ N o)):Zs (n+1) (Ea P T l Θ R (⟨i,deps,1⟩::ms) C ρ Γ N):=by
 obtain⟨v,d,h,hg,hd,hn',k2⟩:=k.go.go;subst hn;exact⟨Fw.rd ho hg hd hn' h k2⟩
theorem Xt{Δ:List Ad}(h:Rd P o ρ Δ v)(k:Zs n (Ea P T l Θ R ms C ((d,v)::ρ) Γ N))(hg:grd l.toArray ρ o=some true:=by rfl)(hd:o.dst=some d:=by rfl)(hn:Nat.blt d C.n=true:=by rfl):Zs (n+1) (FlR Δ P T l Θ R ms C ρ Γ N o):=⟨⟨v,d,h,hg,hd,hn,k.go⟩⟩
theorem Zs.fs(ho:l[i]?=some o)(k:Zs n (Ea P T l Θ R ms C ((d,undef)::ρ) Γ N))(hg:grd l.toArray ρ o=some false:=by rfl)(hd:o.dst=some d:=by rfl)(hn:Nat.blt d C.n=true:=by rfl)(hk:kd=0∨kd=1∨kd=3:=by decide)(hT:T i=none:=by rfl):Zs (n+1) (Ea P T l Θ R (⟨i,deps,kd⟩::ms) C ρ Γ N):=⟨Fw.skip hk ho hg hd hn k.go hT⟩
theorem aJu(k:Zs n (To C ρ (flat N++Γ) R)):Zs (n+1) (Ea P T l Θ R [] C ρ Γ N):=⟨Fw.fin k.go⟩
end
theorem ay{ty:Nat}{zs:List Value} [hz:Dw P ty zs](k:∀b,To C ((d,pv b)::ρ) (box b zs ty::Γ) (wpList P ops Q rest))(hg:grd ops ρ o=some true:=by rfl)(hd:o.dst=some d:=by rfl)(hn:Nat.blt d C.n=true:=by rfl)(ho:o.op= .alloc ty:=by rfl):To C ρ Γ (wpList P ops Q (o::rest)):=To.alloc hg hd hn ho hz k
theorem Jbo{ty:Nat}{x:Operand}{u:Value}{us:List Value}(k:∀b,To C ((d,pv b)::ρ) (box b us ty::Γ) (wpList P ops Q rest))(hg:grd ops ρ o=some true:=by rfl)(hd:o.dst=some d:=by rfl)(hn:Nat.blt d C.n=true:=by rfl)(ho:o.op= .box ty x:=by rfl)(hx:ev ρ x=some u:=by rfl)(hu:u.cells=us.toArray:=by rfl):To C ρ Γ (wpList P ops Q (o::rest)):=RJ hg hd hn ho hx hu k
theorem Jz{G:Prop}(n:Nat)(k:H)(h:Kp H→Zs n G:=by intro k;repeat first|exact aJh k|(with_reducible first|refine aJi ?_|refine Zs.t ?_|refine Zs.q ?_|refine Zs.g ?_|refine Zs.b ?_|refine aJn ?_|refine aJo ?_|refine aJp ?_|refine Zs.tx ?_|refine Zs.tr ?_|refine aJj ?_|refine aJk ?_|refine aJl ?_)|refine lK rda ?_|refine Zs.k ?_|refine aJm ?_|refine aJq ?_|refine aJr ?_|refine Xr rfl rda ?_|refine Zs.fs rfl ?_|refine aJu ?_|refine Xr rfl (RQ rfl rfl) ?_|refine Xr rfl (DT rfl rfl) ?_|refine Xr rfl (DU rfl rfl rfl) ?_|refine Xr rfl (DW rfl rfl) ?_|refine Xr rfl (DY rfl rfl) ?_|refine Xr rfl (EA rfl rfl) ?_|refine Xr rfl (DV rfl rfl rfl) ?_|refine Xr rfl (DX rfl rfl) ?_|refine Xr rfl (DZ rfl rfl) ?_|refine Xr rfl (EB rfl rfl) ?_|(refine aJt rfl nrm ?_;first|refine Xt rda ?_|refine Xt (RQ rfl rfl) ?_|refine Xt (DT rfl rfl) ?_|refine Xt (DU rfl rfl rfl) ?_|refine Xt (DW rfl rfl) ?_|refine Xt (DY rfl rfl) ?_|refine Xt (EA rfl rfl) ?_|refine Xt (DV rfl rfl rfl) ?_|refine Xt (DX rfl rfl) ?_|refine Xt (DZ rfl rfl) ?_|refine Xt (EB rfl rfl) ?_)|(refine Zs.nm nrm ?_;first|refine lK (RQ rfl rfl) ?_|refine lK (DT rfl rfl) ?_|refine lK (DU rfl rfl rfl) ?_|refine lK (DW rfl rfl) ?_|refine lK (DY rfl rfl) ?_|refine lK (EA rfl rfl) ?_|refine lK (DV rfl rfl rfl) ?_|refine lK (DX rfl rfl) ?_|refine lK (DZ rfl rfl) ?_|refine lK (EB rfl rfl) ?_|refine Zs.u rfl rfl rfl ?_|refine aJs rfl rfl rfl ?_)):G:=(h ⟨k⟩).go
end
section
variable{P:Program}{o:Oper}{ρ:Bo}{Γ:List Ad}{x y:Operand}{t t':TypeId}{a b j:Nat}
theorem YI{k k':IntKind}(ho:o.op= .binOp .shr t x y t')(hx:ev ρ x=some (.int k (a:Int)))(hy:ev ρ y=some (.int k' (j:Int)))(hj:j≤k.bits):Rd P o ρ Γ (.int k ((a/2^j:Nat):Int)):=fw ho hx hy fun w=>by
 have h1:¬((j:Int)<0):=om;have h2:Min.min j k.bits=j:=Nat.min_eq_left hj;have e:(a:Int).fdiv (2^j)=((a/2^j:Nat):Int):=by
  rw[Int.fdiv_eq_ediv_of_nonneg _ (by exact_mod_cast aQb _)];simp
 simp only[eqGuard,binOp,Op.shift,h1,if_false,Int.toNat_natCast,h2,e];simp
theorem Rd.cap{e:TypeId}{A:OA}{n c:Nat}(ho:o.op= .call {callee:= .builtin .cap,args:=#[x],argTypes:=#[t]})(ht:P.underlying t=some (.slice e))(hx:ev ρ x=some (.slice A n c)):Rd P o ρ Γ (.int .i64 (c:Int)):=fun a w ha _=>by
 unfold execOp;simp[ho,resolve,invoke,builtin,ha.eval hx,Builtin.cap_,run_underlying ht,goInt]
theorem xK{α:Type}{enc:α→List Value}{size:Nat}(E:Enc enc size){A:OA}{cap lo:Nat}{l:List α}{w:World}(hl:l.length≤cap)(hlo:lo≤l.length)(h:Src w A (l.flatMap enc)):Src w (slAt A cap lo size) ((l.drop lo).flatMap enc):=by
 have e1:(l.drop lo).flatMap enc=(l.flatMap enc).drop (lo*size):=by
  have hlen:((l.take lo).flatMap enc).length=lo*size:=by rw[E.flat_len,aPo,Nat.min_eq_left hlo]
  conv=>rhs;rw[←aRa lo l,aQs,←hlen,List.drop_left']
 by_cases hc:cap=lo
 · left
   rw[aQy om];rfl
 · rw[slAt,aPf hc]
   rcases h with h|⟨g,off,rfl,hr⟩
   ·left;rw[e1,h];simp
   · refine .inr ⟨g,off+lo*size,by simp only[Option.map_some,Addr.add_mid],fun j v hv=>?_⟩
     rw[e1,aRw]at hv;have:=hr (lo*size+j) v hv;rw[show off+lo*size+j=off+(lo*size+j) by omega];exact this
theorem RS{α:Type}{enc:α→List Value}{size:Nat}(E:Enc enc size){A:OA}{cap lo:Nat}{l:List α}(i:Nat)(h:Γ[i]?=some (ros enc A l))(hl:l.length≤cap)(hlo:lo≤l.length):∀w,oks Γ w→(ros enc (slAt A cap lo size) (l.drop lo)).holds w:=fun _ hw=>xK E hl hlo (hw _ (av h))
theorem xL{α:Type}{enc:α→List Value}{size:Nat}{e:TypeId}(E:Enc enc size){A:OA}{cap lo:Nat}{l:List α}(i:Nat)(h:Γ[i]?=some (rows enc e size A cap l))(hl:l.length≤cap)(hlo:lo≤l.length):∀w,oks Γ w→(ros enc (slAt A cap lo size) (l.drop lo)).holds w:=fun w hw=>xK E hl hlo (Nq i h w hw)
theorem EC{C:Cx}{K:Act→World→Prop}{α:Type}{enc:α→List Value}{size:Nat}(E:Enc enc size){A:OA}{l:List α}(cap lo i:Nat)(hi:Γ[i]?=some (ros enc A l))(hl:l.length≤cap)(hlo:lo≤l.length)(h:To C ρ (ros enc (slAt A cap lo size) (l.drop lo)::Γ) K):To C ρ Γ K:=by
 refine Zc (ros enc (slAt A cap lo size) (l.drop lo)) rfl (fun g hg=>Uj i hi ?_) (fun w hw=>RS E i hi hl hlo w hw) h;have h1:g∈Iw (slAt A cap lo size) ((l.drop lo).flatMap enc):=hg;show g∈Iw A (l.flatMap enc);have e2:l.flatMap enc=(l.take lo).flatMap enc++(l.drop lo).flatMap enc:=by rw[←aQs,aRa]
 cases h2:(l.drop lo).flatMap enc with
 |nil=>rw[h2]at h1;simp[Iw]at h1
 | cons u us=>
   rw[h2]at h1;have h3:g∈Ik A:=by
    have h4:g∈Ik (slAt A cap lo size):=h1;rw[slAt]at h4;split at h4
    ·exact h4
    · cases A with
      |none=>simp[Ik]at h4
      | some a=>
        obtain⟨b,o,sp⟩:=a;obtain⟨ad,h5,h6⟩:=Pf.1 h4;simp only[Option.map_some,aPt]at h5;refine Pf.2 ⟨_,rfl,?_⟩;rw[←h6,←h5];cases sp with
        |none=>rw[Addr.add_mid]
        |some p=>unfold Addr.add;split<;>rfl
   rw[e2,h2];cases h7:(l.take lo).flatMap enc with
   |nil=>exact h3
   |cons v vs=>exact h3
end
def lL(o:Oper):Bool:=match o.op with
 | .move _| .assign _| .alloc _| .box _ _| .build _ _| .buildSlice _ _ _| .load _ _| .store _ _ _| .fieldAddr _ _ _| .binOp _ _ _ _ _| .indexAddr _ _ _| .slice _ _ _ _ _| .convert _ _ _| .nilCheck _=>true
 |_=>false
def aEg(m p:Nat)(o:Oper):Bool:=o.after.toList.any fun e=>Region.binds .any e&&(Nat.beq e.on m||Nat.beq e.on p)
theorem uQ{o:Oper}(hp:lL o=true)(ρ:Operand→Value)(P:Program)(w w':World):(∀f args,(execOp ρ o).run P w≠ .ok (.enter f args) w')∧(∀row args,(execOp ρ o).run P w≠ .ok (.row row args) w'):=by
 have hv:∀s:Sem Value,(∀f args,(do pure (.value (←s)):Sem Next).run P w≠ .ok (.enter f args) w')∧(∀row args,(do pure (.value (←s)):Sem Next).run P w≠ .ok (.row row args) w'):=fun s=>by
  simp only[aQm];cases s.run P w<;>simp[Result.andThen]
 have hu:∀s:Sem Unit,(∀f args,(do s;pure .skip:Sem Next).run P w≠ .ok (.enter f args) w')∧(∀row args,(do s;pure .skip:Sem Next).run P w≠ .ok (.row row args) w'):=fun s=>by
  simp only[aQm];cases s.run P w<;>simp[Result.andThen]
 unfold lL at hp;unfold execOp;split at hp<;>rename_i he<;>first|exact aPu hp (by decide)|(simp only[he];first|exact hv _|exact hu _|(simp;done)|skip)
 all_goals
  constructor<;>intro f args<;>split<;>first|(simp[runtimePanic,goPanic];done)|(split<;>first|(simp[runtimePanic,goPanic];done)|skip)|skip
 all_goals
  have key:∀s:Program→Sem (Option Bool),∀u:Value,(∀f args,(do let p←program;let __do_lift←s p;if(__do_lift !=some false)=true then do(unsupported (Unsupported.noEntry "op/nilCheck.the method's receiver behind this interface value is a nil pointer, or cannot be seen to be none, and the arguments act or may panic (ledger 612)"):Sem Unit);pure (Next.value u)else pure (Next.value u):Sem Next).run P w≠ .ok (.enter f args) w')∧(∀f args,(do let p←program;let __do_lift←s p;if(__do_lift !=some false)=true then do(unsupported (Unsupported.noEntry "op/nilCheck.the method's receiver behind this interface value is a nil pointer, or cannot be seen to be none, and the arguments act or may panic (ledger 612)"):Sem Unit);pure (Next.value u)else pure (Next.value u):Sem Next).run P w≠ .ok (.row f args) w'):=fun s u=>by
   simp only[aQm];cases Sem.run P program w with
   |halt a b=>simp[Result.andThen]
   | ok p w0=>
     simp only[aQf];cases(s p).run P w0 with
     |ok a w1=>simp only[Result.andThen];split<;>simp[unsupported]
     |halt a b=>simp[Result.andThen]
  first|exact(key (fun p=>nilAhead (p.types.size+Made.depth) _ _ _) _).1 f args|exact(key (fun p=>nilAhead (p.types.size+Made.depth) _ _ _) _).2 f args
section
variable{P:Program}{l:List Oper}{Q:Act→World→Prop}
end
section
variable{P:Program}{l:List Oper}{C:Cx}{ρ:Bo}{Γ:List Ad}
end
section
variable{P:Program}{T:Tel}{l:List Oper}{C:Cx}{ρ:Bo}{Γ Θ:List Ad}{Q:Act→World→Prop}{ms:List Ez}{N:List (Nat×List Ad)}{i d:Nat}{deps:List Nat}{o:Oper}
theorem aTa{R:Value→List Ad→Prop}{f:FuncId}{vs:List Value}{Γ1:List Ad}(ho:l[i]?=some o)(hg:grd l.toArray ρ o=some true)(hd:o.dst=some d)(hn:Nat.blt d C.n=true)(hnew:N.all (fun m=> !Nat.beq m.1 i)=true)(he:Ent P o ρ f vs)(hc:Bg P f vs Γ1 R)(hq:owns Γ1=[])(hs:∀w,oks (avail N deps++Γ) w→oks Γ1 w)
    (k:∀v Γ',R v Γ'→reads Γ'=[]∧Ea P T l Θ Q ms C ((d,v)::ρ) Γ ((i,Γ')::N)) (hT:T i=none:=by rfl):Ea P T l Θ Q (⟨i,deps,4⟩::ms) C ρ Γ N:=fun a b h' ha hp hm=>by
 rw[Jc (m:=⟨i,deps,4⟩) ho];simp only[Flow];intro w hb _ hw;refine Hr.callTo hT ?_;unfold Hr;rw[aPr (Fa hg ha.sees),he a w ha.sees];refine(hc w (Gp hq (hs w (Pz (hm.avail hw) (hp.sat.ext hb).each)))).mono ?_;rintro e w' ⟨v',Γ',rfl,hR,hpost⟩;obtain⟨hr,hk⟩:=k v' Γ' hR;have hpq:=Sa hq hpost hr;refine⟨v',rfl,hpq.keeps.ext fun _ _ h=>by simp[owns]at h,?_⟩;rw[hd];exact hk _ b _ (ha.put hn) hp ⟨⟨rfl,hb,hpq⟩,hm,hnew⟩
end
abbrev fe(r:Option Nat):Fence:={Fence.wide with round:=r}
theorem lM{r:Option Nat}{n:Nat}{P:Program}{f:FuncId}{args:Array Value}{w:World}{R:Ending→World→Prop}(h:Calls P f args w R):CallsIn (fe r) n P f args w R:=callsIn_wide.2 h
theorem LY{r:Option Nat}{n:Nat}{P:Program}{row:String}{args:Array Value}{w:World}{R:Value→World→Prop}(h:Rows P row args w R):RowsIn (fe r) n P row args w R:=fun c cs _=>by
 obtain⟨v,w',h1,h2⟩:=h c cs;exact⟨v,w',h1,(stepsIn_wide (P:=P)).2 h2⟩
theorem Ov{r:Option Nat}{ρ:Operand→Value}{o:Oper}{P:Program}{w w':World}{x:Next}(h:(execOp ρ o).run P w= .ok x w')(hx:∀d,x≠ .defer d):(o.semAt r ρ).run P w= .ok x w':=by
 rw[Oper.semAt_eq r ρ o]
 ·exact h
 · intro c hc
   unfold execOp at h;simp only[hc,aQm]at h;cases hr:(resolve ρ c o.type).run P w with
   | ok d w1=>
     rw[hr]at h;simp[Result.andThen]at h;exact hx _ h.1.symm
   |halt a b=>rw[hr]at h;simp[Result.andThen]at h
section rules
variable{P:Program}{C:Cx}{ρ ρ':Bo}{Γ Γ':List Ad}{K:Act→World→Prop}{Q:Exit→Act→World→Prop}{r:Option Nat}
theorem ToR.seq{x y:Code}(h:To C ρ Γ (x.wpIn (fe r) 0 P (Exit.then (y.wpIn (fe r) 0 P Q) Q))):To C ρ Γ ((Code.seq x y).wpIn (fe r) 0 P Q):=fun a w ha hp=>wpIn_seq (h a w ha hp)
theorem ToR.skip(h:To C ρ Γ (Q .normal)):To C ρ Γ (Code.skip.wpIn (fe r) 0 P Q):=fun a w ha hp=>wpIn_skip (h a w ha hp)
theorem ToR.exit{id:Nat}(h:To C ρ Γ (Q (.exit id))):To C ρ Γ ((Code.exit id).wpIn (fe r) 0 P Q):=fun a w ha hp=>wpIn_exit (h a w ha hp)
theorem ToR.block{id:Nat}{c:Code}(h:To C ρ Γ (c.wpIn (fe r) 0 P (Exit.inBlock id Q))):To C ρ Γ ((Code.block id c).wpIn (fe r) 0 P Q):=fun a w ha hp=>wpIn_block (h a w ha hp)
theorem LZ{c:Operand}{x y:Code}(hc:ev ρ c=some (.bool false))(h:To C ρ Γ (y.wpIn (fe r) 0 P Q)):To C ρ Γ ((Code.cond c x y).wpIn (fe r) 0 P Q):=
 fun a w ha hp=>wpIn_cond_false (ha.sees.eval hc) (h a w ha hp)
theorem ToR.cond{c:Operand}{x y:Code}{t:Bool}(hc:ev ρ c=some (.bool t))(h1:t=true→To C ρ Γ (x.wpIn (fe r) 0 P Q))(h2:t=false→To C ρ Γ (y.wpIn (fe r) 0 P Q)):To C ρ Γ ((Code.cond c x y).wpIn (fe r) 0 P Q):=
 fun a w ha hp=>wpIn_cond_split (ha.sees.eval hc) (fun e=>h1 e a w ha hp) (fun e=>h2 e a w ha hp)
theorem MB{c:Operand}{x y:Code}{p:Prop} [Decidable p](hc:ev ρ c=some (.bool (decide p)))(h1:p→To C ρ Γ (x.wpIn (fe r) 0 P Q))(h2:¬p→To C ρ Γ (y.wpIn (fe r) 0 P Q)):To C ρ Γ ((Code.cond c x y).wpIn (fe r) 0 P Q):=
 ToR.cond hc (fun e=>h1 (aRn e)) (fun e=>h2 (of_decide_eq_false e))
theorem Vl{id:Nat}{l:List Oper}(h:To C ρ Γ (wpListIn (fe r) 0 P l.toArray Q l)):To C ρ Γ ((Code.region id l.toArray false).wpIn (fe r) 0 P Q):=fun a w ha hp=>wpIn_region_lit (h a w ha hp)
theorem ToR.nil{ops:Array Oper}(h:To C ρ Γ (Q .normal)):To C ρ Γ (wpListIn (fe r) 0 P ops Q []):=h
theorem wpIn_loop_ghost{F:Fence}{n:Nat}{a:Act}{w:World}{c:Code}(I:Nat→Act→World→Prop)(n₀:Nat)(h₀:I n₀ a w)
    (round:∀m a w,I m a w→c.wpIn F n P (Exit.then (fun a' w'=>∃n',n'<m∧I n' a' w') Q) a w):(Code.loop c).wpIn F n P Q a w:=by
 refine wpIn_loop (fun a w=>∃n,I n a w) (fun a w=>leastOf (fun n=>I n a w)) ⟨n₀,h₀⟩ ?_;intro a w hI;refine Go.wpIn_mono (round _ a w (leastOf_spec hI).1) ?_;intro e a' w' hq;cases e with
 | normal=>
   obtain⟨n',hlt,hI'⟩:=hq;exact show(∃n,I n a' w')∧leastOf (fun n=>I n a' w')<leastOf (fun n=>I n a w)from⟨⟨n',hI'⟩,Nat.lt_of_le_of_lt ((leastOf_spec ⟨n',hI'⟩).2 n' hI') hlt⟩
 |exit id=>exact hq
 |goto l=>exact hq
 |ret=>exact hq
 |panic ch=>exact hq
 |outgrown=>exact hq
theorem ToR.loop{c:Code}(I:Nat→Bo→List Ad→Prop)(m0:Nat)(h0:I m0 ρ Γ)(round:∀m ρ Γ,I m ρ Γ→To C ρ Γ (c.wpIn (fe r) 0 P (Exit.then (bO C I m) Q))):To C ρ Γ ((Code.loop c).wpIn (fe r) 0 P Q):=fun _ _ ha hp=>
 wpIn_loop_ghost (fun m a w=>∃ρ Γ,I m ρ Γ∧Has C.n C.ds ρ a∧Dk C.Γ0 Γ C.w0 w) m0 ⟨ρ,Γ,h0,ha,hp⟩ fun m a w ⟨ρ,Γ,hI,ha,hp⟩=>round m ρ Γ hI a w ha hp
theorem To.wide{c:Code}(h:To C ρ Γ (c.wpIn (fe none) 0 P Q)):To C ρ Γ (c.wp P Q):=fun a w ha hp=>wpIn_wide.1 (h a w ha hp)
end rules
section walk
variable{P:Program}{o:Oper}{ρ:Bo}{Γ Γ':List Ad}{C:Cx}{ops:Array Oper}{Q:Exit→Act→World→Prop}{rest:List Oper}{v:Value}{d:Nat}{r:Option Nat}{x:Operand}
theorem iF{a:Act}{w w':World}{v:Value}(hg:Region.wanted o (yielded ops a.tmps)=true)(hr:(execOp a.eval o).run P w= .ok (.value v) w')(k:wpListIn (fe r) 0 P ops Q rest (a.put o.dst v) w'):wpListIn (fe r) 0 P ops Q (o::rest) a w:=by
 refine wpListIn_step fun K hK=>?_;rw[if_pos hg];refine⟨fun _ _=>trivial,?_⟩;rw[show(o.semAt (fe r).round a.eval).run P w=_ from Ov hr (by simp)];exact hK _ _ k
theorem uR{a:Act}{w w':World}(hg:Region.wanted o (yielded ops a.tmps)=true)(hr:(execOp a.eval o).run P w= .ok .skip w')(k:wpListIn (fe r) 0 P ops Q rest (a.put o.dst undef) w'):wpListIn (fe r) 0 P ops Q (o::rest) a w:=by
 refine wpListIn_step fun K hK=>?_;rw[if_pos hg];refine⟨fun _ _=>trivial,?_⟩;rw[show(o.semAt (fe r).round a.eval).run P w=_ from Ov hr (by simp)];exact hK _ _ k
theorem gu(hg:grd ops ρ o=some true)(hd:o.dst=some d)(hn:Nat.blt d C.n=true)(h:Rd P o ρ Γ v)(k:To C ((d,v)::ρ) Γ (wpListIn (fe r) 0 P ops Q rest)):To C ρ Γ (wpListIn (fe r) 0 P ops Q (o::rest)):=
 fun a w ha hp=>iF (Fa hg ha.sees) (h a w ha.sees hp.sat.each) (by rw[hd];exact k _ w (ha.put hn) hp)
theorem ToR.up(hg:grd ops ρ o=some true)(hd:o.dst=none)(h:Up P o ρ Γ Γ')(k:To C ρ Γ' (wpListIn (fe r) 0 P ops Q rest)):To C ρ Γ (wpListIn (fe r) 0 P ops Q (o::rest)):=
 fun a w ha hp=>by
  obtain⟨w',hr,hq⟩:=h a w ha.sees hp.sat
  refine uR (Fa hg ha.sees) hr ?_;rw[hd];exact k a w' ha (hp.trans hq)
theorem ToR.mk{R:Value→List Ad→Prop}(hg:grd ops ρ o=some true)(hd:o.dst=some d)(hn:Nat.blt d C.n=true)(h:Mk P o ρ Γ R)(k:∀v N,R v N→To C ((d,v)::ρ) (N++Γ) (wpListIn (fe r) 0 P ops Q rest)):To C ρ Γ (wpListIn (fe r) 0 P ops Q (o::rest)):=
 fun a w ha hp=>by
  obtain⟨v,N,w',hr,hR,hq⟩:=h a w ha.sees hp.sat.each;refine iF (Fa hg ha.sees) hr ?_;rw[hd];exact k v N hR _ w' (ha.put hn) (hp.trans (hq.add hp.sat))
theorem ME{R:Value→List Ad→Prop}{f:FuncId}{vs:List Value}{Γ1:List Ad}(hg:grd ops ρ o=some true)(hd:o.dst=some d)(hn:Nat.blt d C.n=true)(he:Ent P o ρ f vs)(hc:Bg P f vs Γ1 R)(hq:owns Γ1=[])(hs:∀w,oks Γ w→oks Γ1 w)
    (k:∀v Γ',R v Γ'→reads Γ'=[]∧To C ((d,v)::ρ) (Γ'++Γ) (wpListIn (fe r) 0 P ops Q rest)):To C ρ Γ (wpListIn (fe r) 0 P ops Q (o::rest)):=
 fun a w ha hp=>by
  refine wpListIn_step fun K hK=>?_;rw[if_pos (Fa hg ha.sees)];refine⟨fun _ _=>trivial,?_⟩;rw[show(o.semAt (fe r).round a.eval).run P w=_ from Ov (he a w ha.sees) (by simp)];refine⟨fun h=>by simp[Fence.wide]at h,lM ((hc w (Gp hq (hs w hp.sat.each))).mono ?_)⟩;rintro e w' ⟨v,Γ',rfl,hR,hpost⟩;show K _ _;rw[hd];obtain⟨hr,hk⟩:=k v Γ' hR;exact hK _ _ (hk _ w' (ha.put hn) (hp.trans ((Sa hq hpost hr).add hp.sat)))
theorem fK{f:FuncId}{vs:List Value}{Γ1:List Ad}(hg:grd ops ρ o=some true)(hd:o.dst=some d)(hn:Nat.blt d C.n=true)(he:Ent P o ρ f vs)(hc:Bg P f vs Γ1 (fun v' _=>v'=v))(hq:owns Γ1=[])(hs:∀w,oks Γ w→oks Γ1 w)
    (k:To C ((d,v)::ρ) Γ (wpListIn (fe r) 0 P ops Q rest)):To C ρ Γ (wpListIn (fe r) 0 P ops Q (o::rest)):=
 ME (R:=fun v' Γ'=>v'=v∧Γ'=[]) hg hd hn he (fun w hw=>(hc w hw).mono fun e w' ⟨v',Γ',h1,h2,h3⟩=>⟨v',[],h1,⟨h2,rfl⟩,Dk.drop (Γ':=[]) h3⟩) hq hs fun v' Γ' ⟨h1,h2⟩=>by subst h1 h2;exact⟨rfl,k⟩
theorem ToR.alloc{ty:TypeId}{zs:List Value}(hg:grd ops ρ o=some true)(hd:o.dst=some d)(hn:Nat.blt d C.n=true)(ho:o.op= .alloc ty)(hz:Dw P ty zs)(k:∀b,To C ((d,pv b)::ρ) (box b zs ty::Γ) (wpListIn (fe r) 0 P ops Q rest)):To C ρ Γ (wpListIn (fe r) 0 P ops Q (o::rest)):=
 ToR.mk hg hd hn (Mk.alloc ho hz) fun _ _ ⟨b,h1,h2⟩=>by subst h1 h2;exact k b
end walk
theorem Hr.wpOpIn{P:Program}{ops:Array Oper}{Q:Exit→Act→World→Prop}{r:Option Nat}{i:Nat}{o:Oper}(ho:ops[i]?=some o){a:Act}{w:World}{K:Value→World→Prop}{K':Act→World→Prop}
    (k:Hr P ops o a w K) (hk:∀v w',K v w'→K' (a.put o.dst v) w'):Go.wpOpIn (fe r) 0 P ops Q i K' a w:=by
 unfold Go.wpOpIn;simp only[ho];unfold Hr at k;split at k
 · rename_i hw
   rw[if_pos hw];refine⟨fun _ _=>trivial,?_⟩;unfold wY at k;split at k
   ·rename_i he;rw[show(o.semAt (fe r).round a.eval).run P w=_ from Ov he (by simp)];exact hk _ _ k
   ·rename_i he;rw[show(o.semAt (fe r).round a.eval).run P w=_ from Ov he (by simp)];exact hk _ _ k
   · rename_i he;rw[show(o.semAt (fe r).round a.eval).run P w=_ from Ov he (by simp)]
     refine⟨fun h=>by simp[Fence.wide]at h,lM (Calls.mono k fun e w'' hh=>?_)⟩;obtain⟨v,rfl,hv⟩:=hh;exact hk _ _ hv
   · rename_i he;rw[show(o.semAt (fe r).round a.eval).run P w=_ from Ov he (by simp)]
     exact⟨fun h=>by simp[Fence.wide]at h,LY (Rows.mono k fun v w'' hv=>hk _ _ hv)⟩
   ·exact k.elim
 · rename_i hw
   rw[if_neg hw];exact⟨fun _ _=>trivial,hk _ _ k⟩
theorem lN{P:Program}{ops:Array Oper}{r:Option Nat}{Q:Act→World→Prop}{R:Exit→Act→World→Prop}(hR:∀a w,Q a w→R .normal a w):∀(fuel:Nat) (listed:Array Bool) (a:Act) (w:World),Ny P ops Q fuel listed a w→wpAnyIn (fe r) 0 P .any ops R fuel listed a w
 |0,_,_,_,h=>⟨h.1,hR _ _ h.2⟩
 |fuel+1,_,a,w,h=>⟨fun hr=>hR _ _ (h.1 hr),fun i hi=>by
     obtain⟨o,h1,h2⟩:=h.2 i hi;exact Hr.wpOpIn h1 h2 fun v w' hv=>lN hR fuel _ _ _ hv⟩
theorem ToR.flow{P:Program}{C:Cx}{ρ:Bo}{Γ:List Ad}{l:List Oper}{r:Option Nat}{id:Nat}{R:Exit→Act→World→Prop}(Θ:List Ad)(ms:List Ez)(hm:P.follows .mixedOrders=true)(hB:Lj l ms=true)(hΘ:∀w,oks Γ w→oks Θ w)(h:Ea P noT l Θ (R .normal) ms C ρ Γ []):To C ρ Γ ((Code.region id l.toArray true).wpIn (fe r) 0 P R):=
 fun a w ha hp=>wpIn_region_any hm (lN (fun _ _ h=>h) _ _ _ _ (iB (oks Θ) ms hB (fun _ _=>jI) (hΘ w hp.sat.each) (h a w [] ha hp trivial)))
def Mi(l:Nat)(L:Loop)(s:LoopState)(p:Option Code):Ad where
 owns:=[l]
 reads:=[]
 holds w:=w.heap[l]?=some (.loop {L with state:=s,pending:=p})
 loc w w' h hw:=by rw[h l (.inl (by simp))];exact hw
 lt w hw g hg:=by
  simp only[List.mem_singleton,List.not_mem_nil,or_false]at hg;subst hg;exact(Array.getElem?_eq_some_iff.1 hw).1
def dfr(D:Nat):Ad where
 owns:=[D]
 reads:=[]
 holds w:=w.heap[D]?=some (.deferred (some []))
 loc w w' h hw:=by rw[h D (.inl (by simp))];exact hw
 lt w hw g hg:=by
  simp only[List.mem_singleton,List.not_mem_nil,or_false]at hg;subst hg;exact(Array.getElem?_eq_some_iff.1 hw).1
theorem uS(w:World)(l:Nat)(o:Obj):Gi (fun g=>g=l) w (w.putObj l o) where
 os:=rfl
 tape:=rfl
 output:=rfl
 size:=by simp
 drawn:=Nat.le_refl _
 block g _ hg:=World.putObj_heap_other (fun e=>hg (by rw[e]))
theorem Qn{w:World}{l:Nat}{o:Obj}{c c':Ad}{Γ:List Ad}(hs:sat (c::Γ) w)(hc:c.owns=[l])(hc':c'.owns=[l])(hr':c'.reads=[])(h:c'.holds (w.putObj l o)):Dk (c::Γ) (c'::Γ) w (w.putObj l o):=by
 refine Dk.frame (Γ:=[c]) (Γ':=[c']) (Δ:=Γ) hs ⟨⟨?_,?_,?_⟩,?_,?_,?_⟩
 ·intro x hx;rw[List.mem_singleton.1 hx];exact h
 ·simp[owns,hc']
 ·intro g hg;simp[reads,hr']at hg
 · refine(uS w l o).mono fun g _ hg=>?_
   simp[owns,hc,hg]
 ·intro g hg _;simpa[owns,hc,hc']using hg
 ·intro g hg;simp[reads,hr']at hg
theorem lQ{w:World}{o:Obj}{c:Ad}(hc:c.owns=[w.heap.size])(hr:c.reads=[])(h:c.holds (w.alloc o)):Dk [] [c] w (w.alloc o):=by
 refine⟨⟨?_,?_,?_⟩,?_,?_,?_⟩
 ·intro x hx;rw[List.mem_singleton.1 hx];exact h
 ·simp[owns,hc]
 ·intro g hg;simp[reads,hr]at hg
 ·exact Ve ⟨(Below.refl _ w).alloc (Nat.le_refl _) _,Nat.le_refl _⟩
 · intro g hg hl
   have:g=w.heap.size:=by simpa[owns,hc]using hg
   omega
 ·intro g hg;simp[reads,hr]at hg
def Ul(P:Program)(l:Nat)(args:List Value)(Γ:List Ad)(R:Value→List Ad→Prop):Prop:=
 ∀w,sat Γ w→∃f tmps assign body,(Instr.yield l args.toArray).run P w= .ok (.round l f tmps assign body) w∧
  RoundIn Fence.wide 0 P l f tmps assign body w fun e w'=>∃v Γ',e= .returned v∧R v Γ'∧Dk Γ Γ' w w'
def YJ(P:Program)(o:Oper)(ρ:Bo)(l:Nat)(vs:List Value):Prop:=∀a w,Wz ρ a→(execOp a.eval o).run P w=(Instr.yield l vs.toArray).run P w
theorem YJ.of{P:Program}{o:Oper}{ρ:Bo}{l:Nat}{xs:List Operand}{ts:Array TypeId}{vs:List Value}{c:Operand}(ho:o.op= .call {callee:= .value c,args:=xs.toArray,argTypes:=ts})(hc:ev ρ c=some (.func (.yield l) #[] #[]))(hv:evs ρ xs=some vs):YJ P o ρ l vs:=fun a w ha=>by
 unfold execOp;simp only[ho,resolve,ha.eval hc,List.map_toArray,ha.evals hv,Deferred.ofValue,invoke,Sem.run_bind,Sem.run_pure,Result.andThen_ok];simp
theorem ToR.round{P:Program}{o:Oper}{ρ:Bo}{Γ:List Ad}{C:Cx}{ops:Array Oper}{Q:Exit→Act→World→Prop}{rest:List Oper}{d:Nat}{r:Option Nat}{R:Value→List Ad→Prop}{l:Nat}{vs:List Value}{Γ1 Δ:List Ad}(is:List Nat)(hg:grd ops ρ o=some true)(hd:o.dst=some d)(hn:Nat.blt d C.n=true)(he:YJ P o ρ l vs)(hp:Vf Γ is=some (Γ1,Δ))
    (hc:Ul P l vs Γ1 R) (k:∀v Γ',R v Γ'→To C ((d,v)::ρ) (Γ'++Δ) (wpListIn (fe r) 0 P ops Q rest)):To C ρ Γ (wpListIn (fe r) 0 P ops Q (o::rest)):=
 fun a w ha hq=>by
  refine wpListIn_step fun K hK=>?_;rw[if_pos (Fa hg ha.sees)];refine⟨fun _ _=>trivial,?_⟩;obtain⟨f,tmps,assign,body,h1,h2⟩:=hc w ((hq.sat.perm (Ka hp)).left);have h3:(execOp a.eval o).run P w=_:=(he a w ha.sees).trans h1;rw[show(o.semAt (fe r).round a.eval).run P w=_ from Ov h3 (by simp)];refine⟨fun h=>by simp[Fence.wide]at h,RoundIn.mono (F:=fe r) (n:=0) h2 ?_⟩;rintro e w' ⟨v,Γ',rfl,hR,hpost⟩;show K _ _;rw[hd];exact hK _ _ (k v Γ' hR _ w' (ha.put hn) (hq.trans (Dk.at_ hp hq.sat hpost)))
def begins(P:Program)(l:Nat)(K:Act→World→Prop)(a:Act)(w:World):Prop:=∃w2,(Instr.beginRound l).run P w= .ok () w2∧K a w2
section
variable{P:Program}{C:Cx}{ρ:Bo}{Γ:List Ad}{K:Act→World→Prop}{l:Nat}{L:Loop}{R:Value→List Ad→Prop}
theorem MF(h:To C ρ (Mi l L .busy none::Γ) K):To C ρ (Mi l L .ready none::Γ) (begins P l K):=fun a w ha hq=>by
 have hl:w.heap[l]?=some (.loop {L with state:= .ready,pending:=none}):=hq.sat.each _ (List.mem_cons_self ..);refine⟨_,run_beginRound hl rfl,h a _ ha (hq.trans (Qn hq.sat rfl rfl rfl ?_))⟩;exact World.putObj_heap_same (Array.getElem?_eq_some_iff.1 hl).1
theorem MG(h:R (.bool true) [all (Mi l L .ready none::Γ)]):To C ρ (Mi l L .busy none::Γ) (roundPost P l (Fin C R) .normal):=fun a w ha hq=>by
 have hl:w.heap[l]?=some (.loop {L with state:= .busy,pending:=none}):=hq.sat.each _ (List.mem_cons_self ..);refine⟨_,_,run_endRound none hl, .bool true,_,rfl,h,?_⟩;have:=hq.trans (Qn (c':=Mi l L .ready none) hq.sat rfl rfl rfl (World.putObj_heap_same (Array.getElem?_eq_some_iff.1 hl).1));exact⟨Ze.2 (by simpa using this.sat),this.keeps,fun g hg=>this.own g (by simpa[owns,all]using hg),fun g hg=>this.rd g (by simpa[reads,all]using hg)⟩
end
theorem Ul.of{P:Program}{l:Nat}{L:Loop}{p n:Nat}{v:Value}{ρ:Bo}{Γe Γc:List Ad}{R:Value→List Ad→Prop}{assign body:Code}(hp:L.params=#[p])(ha:L.assign=assign)(hb:L.body=body)(hL:Has n [] ρ ⟨L.tmps,[]⟩)(hn:Nat.blt p n=true)
    (h:∀w,To ⟨n,Γe++[all (Mi l L .ready none::Γc)],w,[]⟩ ((p,v)::ρ) (Mi l L .ready none::(Γe++Γc))
     (assign.wpIn (fe (some l)) 0 P (Exit.then (begins P l (body.wpIn (fe (some l)) 0 P (roundPost P l (Fin ⟨n,Γe++[all (Mi l L .ready none::Γc)],w,[]⟩ R)))) (fun _ _ _=>False)))):
    Ul P l [v] (Γe++[all (Mi l L .ready none::Γc)]) R:=fun w hs=>by
 have hs1:sat (all (Mi l L .ready none::Γc)::Γe) w:=hs.perm List.perm_append_comm;have hs2:sat ((Mi l L .ready none::Γc)++Γe) w:=Ze.1 hs1;have hs3:sat (Mi l L .ready none::(Γe++Γc)) w:=hs2.perm (List.Perm.cons _ List.perm_append_comm);have hl:w.heap[l]?=some (.loop {L with state:= .ready,pending:=none}):=hs3.each _ (List.mem_cons_self ..);refine⟨_,_,_,_,run_yield hl (by simp[hp]),?_⟩;refine roundIn_of_wpIn (F:=Fence.wide) trivial ?_;have h0:=h w {tmps:=L.tmps.setIfInBounds p v,defers:=[]} w ?_ ?_
 · rw[ha,hb]
   have e1:((L.params.zip #[v]).foldl (fun tmps (x:Tmp×Value)=>tmps.setIfInBounds x.1 x.2) L.tmps)=L.tmps.setIfInBounds p v:=by rw[hp];simp
   show assign.wpIn (fe (some l)) 0 P _ ⟨(L.params.zip #[v]).foldl (fun tmps (x:Tmp×Value)=>tmps.setIfInBounds x.1 x.2) L.tmps,[]⟩ w;rw[e1];exact h0
 ·exact hL.put hn
 · refine⟨hs3,Gi.refl _ _,fun g hg _=>?_,fun g hg _=> .inr ?_⟩
   · have:g∈owns (Mi l L .ready none::(Γe++Γc)):=hg
     rw[Dm];simp only[owns,List.flatMap_cons,List.flatMap_append,List.mem_append,List.flatMap_nil,List.append_nil,all]at this⊢;rcases this with h|h|h
     ·exact .inr (.inl h)
     ·exact .inl h
     ·exact .inr (.inr h)
   · have:g∈reads (Mi l L .ready none::(Γe++Γc)):=hg
     rw[Fj];simp only[reads,List.flatMap_cons,List.flatMap_append,List.mem_append,List.flatMap_nil,List.append_nil,all]at this⊢;rcases this with h|h|h
     ·exact .inr (.inl h)
     ·exact .inl h
     ·exact .inr (.inr h)
def mark(D:Nat):Deferred:={target:= .collected D,args:=#[]}
theorem xM{P:Program}{f:FuncId}{args:List Value}{Γ:List Ad}{R:Value→List Ad→Prop}{fn:Func}{c:Code}{n:Nat}
    (hf:P.funcs[f]?=some fn) (hb:fn.body=some c) (hn:fn.ntmps=n) (hl:Nat.ble args.length n=true)
    (h:∀w,To ⟨n,Γ,w,[]⟩ (slotsOf 0 args) Γ (c.wpIn (fe none) 0 P (bodyPost P fn (Fin ⟨n,Γ,w,[]⟩ R)))):Bg P f args Γ R:=
 Bg.enter hf hb hn hl fun w=>To.wide (h w)
theorem xN{P:Program}{f:FuncId}{args:List Value}{Γ:List Ad}{R:Value→List Ad→Prop}{fn:Func}{c:Code}{n:Nat}
    (hf:P.funcs[f]?=some fn) (hb:fn.body=some c) (hn:fn.ntmps=n) (hl:Nat.ble args.length n=true)
    (h:∀w,To ⟨n,Γ,w,[]⟩ (slotsOf 0 args) Γ (c.wp P (bodyPostM Fence.wide 0 P fn (Fin ⟨n,Γ,w,[]⟩ R)))):Bg P f args Γ R:=fun w hs=>by
 refine callsIn_wide.1 (callsIn_of_wp_marks (F:=Fence.wide) (n:=0) hf hb trivial (wpIn_wide.2 ?_) rfl);rw[hn];exact h w _ w (Yz args n hl) (Dk.refl hs)
theorem qB{P:Program}{C:Cx}{ρ:Bo}{Γa Γc:List Ad}{Q:Exit→Act→World→Prop}{g:Operand}{ps:Array Nat}{assign body:Code}{gf:FuncId}{lb:List Value}(Rn Rx:List Ad→Prop)
    (hg:ev ρ g=some (.func (.func gf) #[] lb.toArray)) (hc:Mw P gf=true)
    (h:∀l (L:Loop),L.params=ps→L.assign=assign→L.body=body→Has C.n [] ρ ⟨L.tmps,[]⟩→
     Bg P gf (.func (.yield l) #[] #[]::lb) (Γa++[all (Mi l L .ready none::Γc)]) (fun _ Γ'=>∃Γ2,(Γ'=[all (Mi l L .ready none::Γ2)]∧Rn Γ2)∨(Γ'=[all (Mi l L .done (some .ret)::Γ2)]∧Rx Γ2)))
    (k1:∀D Γ2,Rn Γ2→To ⟨C.n,C.Γ0,C.w0,mark D::C.ds⟩ ρ (dfr D::Γ2) (Q .normal))
    (k2:∀D Γ2,Rx Γ2→To ⟨C.n,C.Γ0,C.w0,mark D::C.ds⟩ ρ (dfr D::Γ2) (Q .ret)):To C ρ (Γa++Γc) ((Code.rangeFunc g ps assign body).wp P Q):=fun a w ha hq=>by
 refine wpIn_wide (n:=0).1 (wpIn_rangeFunc ?_);intro fn _;let L:Loop:={state:= .ready,pending:=none,fn:=fn,tmps:=a.tmps,params:=ps,assign:=assign,body:=body,defers:=w.heap.size}
 have hgv:a.eval g= .func (.func gf) #[] lb.toArray:=ha.sees.eval hg;let W1:=(w.alloc (.deferred (some []))).alloc (.loop L);have p1:Dk [] [dfr w.heap.size] w (w.alloc (.deferred (some []))):=lQ rfl rfl (World.alloc_heap_new w _);have p2:Dk [] [Mi (w.heap.size+1) L .ready none] (w.alloc (.deferred (some []))) W1:=lQ (by rw[World.size_alloc];rfl) rfl (by
  have:=World.alloc_heap_new (w.alloc (.deferred (some []))) (.loop L);rw[World.size_alloc]at this;exact this)
 have q1:=hq.trans (p1.add hq.sat);have q2:Dk C.Γ0 (Mi (w.heap.size+1) L .ready none::dfr w.heap.size::(Γa++Γc)) C.w0 W1:=q1.trans (p2.add q1.sat);refine⟨w.heap.size+1,[mark w.heap.size],W1,{target:= .fn (.func gf) lb.toArray,args:=#[.func (.yield (w.heap.size+1)) #[] #[]]},W1,gf,
  #[.func (.yield (w.heap.size+1)) #[] #[]]++lb.toArray,W1,?_,?_,fun _ _=>trivial,?_,fun h=>by simp[Fence.wide]at h,?_⟩
 ·exact run_enterLoop_outer _ _ _ _ _
 · simp only[resolve,hgv]
   simp[go_sem]
 ·simp[invoke,go_sem,bP hc]
 · refine callsIn_wide.2 ?_
   have hd:=h (w.heap.size+1) L rfl rfl rfl ⟨ha.size,rfl,fun t v ht=>ha.sees t v ht⟩
   -- the chunks, parted
   have pm:(Mi (w.heap.size+1) L .ready none::dfr w.heap.size::(Γa++Γc)).Perm ((Γa++(Mi (w.heap.size+1) L .ready none::Γc))++[dfr w.heap.size]):=by
    refine((List.Perm.swap _ _ _).trans ?_).trans (List.perm_append_comm (l₁:=[dfr w.heap.size]));exact List.Perm.cons _ List.perm_middle.symm
   have q3:=q2.perm pm;have hs4:sat (Γa++[all (Mi (w.heap.size+1) L .ready none::Γc)]) W1:=by
    have h1:=q3.sat.left;have h2:sat ((Mi (w.heap.size+1) L .ready none::Γc)++Γa) W1:=h1.perm List.perm_append_comm;exact(Ze.2 h2).perm (List.perm_append_comm (l₁:=[_]))
   have e0:#[Value.func (.yield (w.heap.size+1)) #[] #[]]++lb.toArray=(Value.func (.yield (w.heap.size+1)) #[] #[]::lb).toArray:=by simp
   rw[e0];refine(hd W1 hs4).mono ?_;rintro e w3 ⟨v,Γ',rfl,⟨Γ2,hr⟩,hpost⟩
   -- the post over the parted chunks
   have flat:∀(s:LoopState) (pe:Option Code),Dk (Γa++[all (Mi (w.heap.size+1) L .ready none::Γc)]) [all (Mi (w.heap.size+1) L s pe::Γ2)] W1 w3→Dk C.Γ0 (Mi (w.heap.size+1) L s pe::dfr w.heap.size::Γ2) C.w0 w3:=fun s pe hpost=>by
    have f1:Dk (Γa++(Mi (w.heap.size+1) L .ready none::Γc)) (Mi (w.heap.size+1) L s pe::Γ2) W1 w3:=by
     have eo:∀g,g∈owns (Γa++[all (Mi (w.heap.size+1) L .ready none::Γc)])↔g∈owns (Γa++(Mi (w.heap.size+1) L .ready none::Γc)):=fun g=>by rw[Dm,Dm,List.mem_append,List.mem_append];simp[owns,all]
     have er:∀g,g∈reads (Γa++[all (Mi (w.heap.size+1) L .ready none::Γc)])↔g∈reads (Γa++(Mi (w.heap.size+1) L .ready none::Γc)):=fun g=>by rw[Fj,Fj,List.mem_append,List.mem_append];simp[reads,all]
     refine⟨by simpa using Ze.1 hpost.sat,hpost.keeps.mono fun g _ hg=>(eo g).1 hg,fun g hg hl=>(eo g).1 (hpost.own g (by simpa[owns,all]using hg) hl),fun g hg hl=>?_⟩;exact(hpost.rd g (by simpa[reads,all]using hg) hl).imp (eo g).1 (er g).1
    have f2:=q3.trans (f1.frame q3.sat);exact f2.perm (List.Perm.cons _ (List.perm_append_comm (l₂:=[dfr w.heap.size])))
   rcases hr with⟨rfl,hR⟩|⟨rfl,hR⟩
   · have f:=flat _ _ hpost
     have hl:w3.heap[w.heap.size+1]?=some (.loop {L with state:= .ready,pending:=none}):=f.sat.each _ (List.mem_cons_self ..);refine⟨none,_,run_endLoop hl (by simp),?_⟩;refine k1 w.heap.size Γ2 hR _ _ ⟨ha.size,by simp[mark,ha.defers],fun t v ht=>ha.sees t v ht⟩ ?_;have:=f.trans (Qn (c':=Mi (w.heap.size+1) L .exhausted none) f.sat rfl rfl rfl (World.putObj_heap_same (Array.getElem?_eq_some_iff.1 hl).1));exact(this.perm (List.perm_append_comm (l₁:=[_]))).drop
   · have f:=flat _ _ hpost
     have hl:w3.heap[w.heap.size+1]?=some (.loop {L with state:= .done,pending:=some .ret}):=f.sat.each _ (List.mem_cons_self ..);refine⟨some .ret,_,run_endLoop hl (by simp),wpIn_ret ?_⟩;refine k2 w.heap.size Γ2 hR _ _ ⟨ha.size,by simp[mark,ha.defers],fun t v ht=>ha.sees t v ht⟩ ?_;have:=f.trans (Qn (c':=Mi (w.heap.size+1) L .exhausted (some .ret)) f.sat rfl rfl rfl (World.putObj_heap_same (Array.getElem?_eq_some_iff.1 hl).1));exact(this.perm (List.perm_append_comm (l₁:=[_]))).drop
def sO:Bo→Nat→Nat×Value
  |[],k=>(k,undef)
  |(d,v)::r,k=>bif Nat.beq d k then(d,v)else sO r k
def gO:List Ad→Nat→Ad
  |[],_=>all []
  |c::_,0=>c
  |_::r,n+1=>gO r n
section
variable{P:Program}{C:Cx}{ρ ρ':Bo}{Γ Γ' Γ1 Δ:List Ad}{Q:Exit→Act→World→Prop}{ops:Array Oper}{rest:List Oper}{o:Oper}{v:Value}{d n:Nat}{f:FuncId}{vs:List Value}{R:Value→List Ad→Prop}{xs:List Operand}{ts:Array TypeId}{K:Act→World→Prop}{nf:Nat→Bool}
theorem IX:∀{xs:List Operand} {us:List Value},evs ρ xs=some us→us.length=xs.length
  | [],us,h=>by
    unfold evs at h;cases h;rfl
  | x ::r,us,h=>by
    unfold evs at h;split at h
    · rename_i h1 h2
      cases h;rw[List.length_cons,List.length_cons,IX h2]
    ·cases h
theorem Rd.bd{t:TypeId}{parts:List (Nat×Operand)}{us:List Value}(cells:List Value)(ho:o.op= .build t parts.toArray:=by rfl)(hv:evs ρ (parts.map (·.2))=some us:=by rfl)(h:P.built t ((parts.map (·.1)).zip us)=some cells.toArray:=by kernel_rfl):Rd P o ρ Γ (.agg cells.toArray):=by
  have hl:=IX hv;rw[List.length_map]at hl;exact Rd.build (vs:=(parts.map (·.1)).zip us) ho (by rw[hv,List.map_snd_zip (by rw[List.length_map,hl];exact Nat.le_refl _)]) (by rw[List.map_fst_zip (by rw[List.length_map,hl];exact Nat.le_refl _)]) h
theorem bA{p q:Prop}(h:p)(e:p→q:=by intro h;simp only[Bool.or_eq_false_iff,Bool.and_eq_false_iff,Bool.or_eq_true,Bool.and_eq_true,decide_eq_true_eq,decide_eq_false_iff_not]at h;exact h):q:=e h
theorem gg{p q:Prop}(h:q)(e:q→p:=by intro h;first|(simp[h];done)|(simp[h];omega)):p:=e h
theorem gg2{p q r:Prop}(h:q)(i:r)(e:q→r→p:=by intro h i;first|(simp[h,i];done)|(simp[h,i];omega)):p:=e h i
section
variable{T:Tel}{l:List Oper}{Θ:List Ad}{G:Act→World→Prop}{ms:List Ez}{N:News}{i:Nat}{deps:List Nat}
theorem Du [Kc P nf](is:List Nat)(hc:Bg P f vs Γ1 R)(k:∀v Γ',R v Γ'→(∀w,oks (Γ'++Δ) w→oks Θ w)∧Ea P T l Θ G ms C ((d,v)::ρ) (Γ'++Δ) [])(ho:l[i]?=some o:=by rfl)(hg:o.guard=none:=by rfl)(hd:o.dst=some d:=by rfl)(hn:Nat.blt d C.n=true:=by rfl)(hp:o.op= .call {callee:= .value (.func f),args:=xs.toArray,argTypes:=ts}:=by rfl)(hv:evs ρ xs=some vs:=by rfl)(hf:nf f=true:=by rfl)(hpl:Vf (flat N++Γ) is=some (Γ1,Δ):=by rfl)(hT:T i=none:=by rfl):Ea P T l Θ G (⟨i,deps,5⟩::ms) C ρ Γ N:=Fw.call is ho hg hd hn (Ent.fc hp hv hf) hpl hc k hT
theorem Fw.qf [Kc P nf](hc:Bg P f vs Γ1 (fun v' _=>v'=v))(hs:∀w,oks (avail N deps++Γ) w→oks Γ1 w)(k:Ea P T l Θ G ms C ((d,v)::ρ) Γ N)(ho:l[i]?=some o:=by rfl)(hg:grd l.toArray ρ o=some true:=by rfl)(hd:o.dst=some d:=by rfl)(hn:Nat.blt d C.n=true:=by rfl)(hp:o.op= .call {callee:= .value (.func f),args:=xs.toArray,argTypes:=ts}:=by rfl)(hv:evs ρ xs=some vs:=by rfl)(hf:nf f=true:=by rfl)(hq:owns Γ1=[]:=by rfl)(hT:T i=none:=by rfl):Ea P T l Θ G (⟨i,deps,3⟩::ms) C ρ Γ N:=bQ ho hg hd hn (Ent.fc hp hv hf) hc hq hs k hT
theorem Fw.tf [Kc P nf](hc:Bg P f vs Γ1 R)(hs:∀w,oks (avail N deps++Γ) w→oks Γ1 w)(hr:∀v Γ',R v Γ'→reads Γ'=[])(k:∀v Γ',R v Γ'→Ea P T l Θ G ms C ((d,v)::ρ) Γ ((i,Γ')::N))(ho:l[i]?=some o:=by rfl)(hg:o.guard=none:=by rfl)(hd:o.dst=some d:=by rfl)(hn:Nat.blt d C.n=true:=by rfl)(hnew:N.all (fun m=> !Nat.beq m.1 i)=true:=by rfl)(hp:o.op= .call {callee:= .value (.func f),args:=xs.toArray,argTypes:=ts}:=by rfl)(hv:evs ρ xs=some vs:=by rfl)(hf:nf f=true:=by rfl)(hq:owns Γ1=[]:=by rfl)(hT:T i=some (tQ R):=by rfl):Ea P T l Θ G (⟨i,deps,4⟩::ms) C ρ Γ N:=RG ho hg hd hn hnew (Ent.fc hp hv hf) hc hq hs hr hT k
theorem Ew{t e:TypeId}{size bytes len:Nat}{zs:List Value}{parts:List (Nat×Operand)}(us:List Value)(k:∀b,Ea P T l Θ G ms C ((d, .slice (some ⟨b,0,none⟩) len len)::ρ) Γ ((i,[row e size (some ⟨b,0,none⟩) len len us])::N))(ho:l[i]?=some o:=by rfl)(hg:o.guard=none:=by rfl)(hd:o.dst=some d:=by rfl)(hn:Nat.blt d C.n=true:=by rfl)(hnew:N.all (fun m=> !Nat.beq m.1 i)=true:=by rfl)(hp:o.op= .buildSlice t len parts.toArray:=by rfl)(ht:Cj P t e size bytes zs:=by exact inferInstance)(hv:evs ρ (parts.map (·.2))=some vs:=by rfl)(hi:parts.map (·.1)=List.range' 0 len:=by rfl)(hlen:Nat.blt 0 len=true:=by rfl)(hsm:Nat.ble (len*size) 16777216=true:=by rfl)(hsz:vs.all (fun v=>Nat.beq v.cells.size size)=true:=by rfl)(hu:(vs.flatMap fun v=>v.cells.toList)=us:=by rfl):Ea P T l Θ G (⟨i,deps,2⟩::ms) C ρ Γ N:=Fw.mk ho hg hd hn hnew (IR hp ht hv hi hlen hsm hsz hu) (by rintro _ _ ⟨b,rfl,rfl⟩;exact k b)
end
theorem Er{t e:TypeId}{size bytes len:Nat}{zs:List Value}{parts:List (Nat×Operand)}(us:List Value)(k:∀b,To C ((d, .slice (some ⟨b,0,none⟩) len len)::ρ) (row e size (some ⟨b,0,none⟩) len len us::Γ) (wpList P ops Q rest))(hg:grd ops ρ o=some true:=by rfl)(hd:o.dst=some d:=by rfl)(hn:Nat.blt d C.n=true:=by rfl)(hp:o.op= .buildSlice t len parts.toArray:=by rfl)(ht:Cj P t e size bytes zs:=by exact inferInstance)(hv:evs ρ (parts.map (·.2))=some vs:=by rfl)(hi:parts.map (·.1)=List.range' 0 len:=by rfl)(hlen:Nat.blt 0 len=true:=by rfl)(hsm:Nat.ble (len*size) 16777216=true:=by rfl)(hsz:vs.all (fun v=>Nat.beq v.cells.size size)=true:=by rfl)(hu:(vs.flatMap fun v=>v.cells.toList)=us:=by rfl):To C ρ Γ (wpList P ops Q (o::rest)):=Jmk hg hd hn (IR hp ht hv hi hlen hsm hsz hu) (by rintro _ _ ⟨b,rfl,rfl⟩;exact k b)
structure Bq(Γ:List Ad)(b:Nat)(cs:List Value)(t:Nat):Prop where
  h:∃i:Nat,Γ[i]?=some (box b cs t)
theorem Ee{E:List Ad}{fn:Func}{ex:Exit}{t b:Nat}{ty ty':TypeId}{cs:List Value}(is:List Nat)(hres:fn.results=#[.cell t ty]) [ht:Fu P ty n](h:R (.agg cs.toArray) Δ)(hpl:Vf Γ is=some (Δ,E):=by rfl)(hex:ex= .ret∨ex= .normal:=by first|exact .inl rfl|exact .inr rfl)(hv:look ρ t=some (.pointer (some ⟨b,0,none⟩)):=by rfl)(hi:Bq Γ b cs ty':=by(try dsimp only[List.append,List.set,List.eraseIdx,List.cons_append,List.nil_append,lI,lJ,aN,aO,List.any,Nat.beq,cond,Bool.or]);exact⟨_,Bx.h⟩)(hl:cs.length=n:=by rfl)(hds:C.ds=[]:=by rfl):To C ρ Γ (bodyPost P fn (Fin C R) ex):=by
  obtain⟨i,hi⟩:=hi.h;exact aJc is hpl hex hres hv hi ht hl h hds
def Mb(C:Cx)(ρ:Bo)(Γ:List Ad)(d:Nat)(e:Bool):Act→World→Prop:=fun a w=>∃t,t=e∧Has C.n C.ds ((d, .bool t)::ρ) a∧Dk C.Γ0 Γ C.w0 w
theorem Oa{l:List Oper}(ks:List Nat)(d:Nat)(e:Bool)(h:To C ρ Γ (wpList P ops (Exit.then (Mb C ρ' Γ' d e) Q) l))(k:To C ((d, .bool e)::ρ') Γ' K)(hρ:ks.map (sO ρ)=ρ':=by(try dsimp only[List.map,sO,Nat.beq,cond]);(try exact rfl))(hΓ:Γ=Γ':=by(try dsimp only[List.append,List.set,List.eraseIdx,List.cons_append,List.nil_append,lI,lJ,aN,aO,List.any,Nat.beq,cond,Bool.or]);(try exact rfl)):To C ρ Γ (wpList P ops (Exit.then K Q) l):=by
  subst hΓ;refine aJb (T:=Bool) (fun t=>((d, .bool t)::ρ',Γ)) (fun t=>t=e) h fun t ht=>?_;subst ht;exact k
theorem Gb{t e:Bool}(ht:look ρ d=some (.bool t))(hp:t=e)(hs:Xa ρ ρ':=by repeat first|exact trivial|refine⟨rfl,?_⟩)(hg:Γ'=Γ:=by rfl):To C ρ Γ (Mb C ρ' Γ' d e):=Jhe (F:=fun t=>((d, .bool t)::ρ',Γ')) (p:=fun t=>t=e) t hp ⟨ht,hs⟩ hg
theorem Jh{c:Code}{I':Nat→Bo→List Ad→Prop}{m0:Nat}(I:(Nat→Nat×Value)→(Nat→Ad)→Nat→Bo→List Ad→Prop)(h0:I (sO ρ) (gO Γ) m0 ρ' Γ∧Xa ρ ρ')(round:∀m ρ Γ,I' m ρ Γ→To C ρ Γ (c.wp P (Exit.then (bO C I' m) Q)))(hI:I (sO ρ) (gO Γ)=I':=by(try dsimp only[sO,gO,List.append,List.set,List.eraseIdx,List.cons_append,List.nil_append,lI,lJ,aN,aO,List.any,Nat.beq,cond,Bool.or]);(try exact rfl)):To C ρ Γ ((Code.loop c).wp P Q):=Jo ρ' h0.2 (To.loop I' m0 (hI▸h0.1) round)
def Pm(Γ Γ':List Ad):Prop:=∃Δ,Γ.Perm (Γ'++Δ)
def Pk(c:Ad)(Γ Γ':List Ad):Prop:=Γ.Perm (c::Γ')
theorem aJv:Pm Γ []:=⟨Γ,List.Perm.refl _⟩
theorem aEh{c:Ad}:Pk c (c::Γ) Γ:=List.Perm.refl _
theorem Pk.zs{c e:Ad}(h:Pk c Γ Γ1):Pk c (e::Γ) (e::Γ1):=(List.Perm.cons e h).trans (List.Perm.swap c e Γ1)
theorem aJw{c:Ad}(h:Pk c Γ Γ1)(k:Pm Γ1 Γ'):Pm Γ (c::Γ'):=by
  obtain⟨Δ,k⟩:=k;exact⟨Δ,h.trans (List.Perm.cons c k)⟩
theorem RV(hp:Pm Γ Γ')(k:To C ρ Γ' K):To C ρ Γ K:=by
  obtain⟨Δ,hp⟩:=hp;exact cz hp k.drop
theorem Pm.go(h:Pm Γ Γ':=by(try dsimp only[gO,List.append,List.set,List.eraseIdx,List.cons_append,List.nil_append,lI,lJ,aN,aO,List.any,Nat.beq,cond,Bool.or]);repeat first|exact aJv|(apply aJw;focus (first|with_reducible ((repeat first|exact aEh|apply Pk.zs);done)|((repeat first|exact aEh|apply Pk.zs);done)))):Pm Γ Γ':=h
theorem Db{I:Nat→Bo→List Ad→Prop}{m k:Nat}(h:I k ρ' Γ∧Xa ρ ρ')(hk:k<m:=by exact om):To C ρ Γ (bO C I m):=QY k hk h
theorem Bp{I:Nat→Bo→List Ad→Prop}{m k:Nat}(h:I k ρ' Γ'∧Xa ρ ρ')(hk:k<m:=by exact om)(hp:Pm Γ Γ':=by exact Pm.go):To C ρ Γ (bO C I m):=RV hp (QY k hk h)
theorem Mt{T:Type}{F:T→Bo×List Ad}{p:T→Prop}(t:T)(hp:p t)(hs:Xa ρ (F t).1:=by exact sb)(hg:Pm Γ (F t).2:=by dsimp only;exact Pm.go):To C ρ Γ (fun a w=>∃t,p t∧Has C.n C.ds (F t).1 a∧Dk C.Γ0 (F t).2 C.w0 w):=RV hg (Jhe t hp hs rfl)
theorem Bz{c:Code}{I':Nat→Bo→List Ad→Prop}{m0:Nat}(I:(Nat→Nat×Value)→(Nat→Ad)→Nat→Bo→List Ad→Prop)(h0:I (sO ρ) (gO Γ) m0 ρ' Γ'∧Xa ρ ρ')(round:∀m ρ Γ,I' m ρ Γ→To C ρ Γ (c.wp P (Exit.then (bO C I' m) Q)))(hI:I (sO ρ) (gO Γ)=I':=by(try dsimp only[sO,gO,List.append,List.set,List.eraseIdx,List.cons_append,List.nil_append,lI,lJ,aN,aO,List.any,Nat.beq,cond,Bool.or]);(try exact rfl))(hp:Pm Γ Γ':=by exact Pm.go):To C ρ Γ ((Code.loop c).wp P Q):=RV hp (Jo ρ' h0.2 (To.loop I' m0 (hI▸h0.1) round))
theorem gp(k:To C ρ Γ' K)(h:Γ=Γ':=by(try dsimp only[List.append,List.set,List.eraseIdx,List.cons_append,List.nil_append,lI,lJ,aN,aO,List.any,Nat.beq,cond,Bool.or]);(try exact rfl)):To C ρ Γ K:=h▸k
end
end Go.Sep

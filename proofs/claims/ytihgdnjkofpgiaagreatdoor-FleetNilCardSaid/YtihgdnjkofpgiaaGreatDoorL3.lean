/- Merged out of Sepu, Seph, Septl, Sepup, Sz, Sepc, Sepcw, Sepr, Seprb by merge.py. Own text. -/
import Derived.Test.YtihgdnjkofpgiaaGreatDoorL2
import Derived.ChangeKeysEq
import Derived.ArgAppend
import Derived.Lib.AppendZeros
import Derived.RangeFuncIn
import Derived.RangeFuncRecord
import Derived.RangeFuncLeaves
import Derived.OrdersIn
import Derived.TacticsIn
set_option linter.unusedVariables false
set_option linter.unusedSimpArgs false
namespace Go.Sep
open Go.RowKit Go.Flow Go.Mem
section
variable{P:Program}{o:Oper}{ρ:Slots}{Γ:List Chunk}{x y:Operand}
structure Arr2(P:Program)(K:TypeId):Prop where
 und:∃e i,P.underlying K=some (.array 2 e)∧P.underlying e=some (.int .i64)∧P.info? e=some i∧P.cellsOf e=1
 guard:P.eqGuardType P.depth K=false
theorem Arr2.eq{K:TypeId}(T:Arr2 P K)(d:Nat)(a b c e:Int)(w:World):
    (Op.equalIn (d+2) K (.agg #[.int .i64 a, .int .i64 b]) (.agg #[.int .i64 c, .int .i64 e])).run P w= .ok (decide ((a,b)=(c,e))) w:=by
 obtain⟨et,i,h1,h2,h3,h4⟩:=T.und
 rw[run_equalIn_array w (d+1) _ _ h1 h3,h4]
 have p0:∀u v:Int,(part et #[.int .i64 u, .int .i64 v] 0).run P w= .ok (.int .i64 u) w:=fun u v=>by simp[part,isAgg,run_underlying h2]
 have p1:∀u v:Int,(part et #[.int .i64 u, .int .i64 v] 1).run P w= .ok (.int .i64 v) w:=fun u v=>by simp[part,isAgg,run_underlying h2]
 have hr:List.range 2=[0,1]:=rfl
 rw[hr]
 simp only[Op.eqItems,Sem.run_bind,Nat.zero_mul,Nat.one_mul,p0,p1,Result.andThen_ok,run_equalIn_int _ d et .i64 .i64 _ _ h2,Sem.run_ite]
 by_cases e1:a=c<;>by_cases e2:b=e<;>simp[e1,e2]
end
theorem flat_repl{zs:List Value}{s:Nat}(hs:zs.length=s)(hp:0<s):∀(n k:Nat),(List.replicate n zs).flatten[k]?=if k<n*s then zs[k%s]? else none
 |0,k=>by simp
 | n +1,k=>by
   rw[List.replicate_succ,List.flatten_cons,List.getElem?_append,hs]
   split
   · rename_i h
     rw[if_pos (by rw[Nat.add_mul,Nat.one_mul];omega),Nat.mod_eq_of_lt h]
   · rename_i h
     rw[flat_repl hs hp n (k-s),Nat.add_mul,Nat.one_mul]
     have e:(k-s)%s=k%s:=by
      conv=>rhs;rw[show k=(k-s)+s by omega,Nat.add_mod_right]
     by_cases h2:k-s<n*s
     ·rw[if_pos h2,if_pos (by omega),e]
     ·rw[if_neg h2,if_neg (by omega)]
theorem madeCells_listN(zs:List Value)(n s:Nat)(hs:zs.length=s)(hp:0<s):(madeCells zs.toArray (n*s)).toList=(List.replicate n zs).flatten:=by
 apply List.ext_getElem?
 intro k
 rw[flat_repl hs hp]
 unfold madeCells
 by_cases hk:k<n*s
 · have h1:k%s<zs.length:=by rw[hs];exact Nat.mod_lt _ hp
   simp only[List.size_toArray,Array.toList_map,Array.toList_range,List.getElem?_map,List.getElem?_range hk,Option.map_some,hs,if_pos hk]
   rw[gge h1]
   simp[h1]
 ·simp[hk]
section
variable{P:Program}{o:Oper}{ρ:Slots}{Γ:List Chunk}{x y:Operand}{t:TypeId}
theorem Mk.makeRowsN{α:Type}{enc:α→List Value}{z:α}{e:TypeId}{bytes n size:Nat}{kl kc:IntKind}(hz:(enc z).length=size)(hp:0<size)(ho:o.op= .makeSlice t x y)(ht:SliceTy P t e size bytes (enc z))(hx:ev ρ x=some (.int kl (n:Int)))(hy:ev ρ y=some (.int kc (n:Int)))(hb:bytes*n≤281474976710656)(hc:n≤maxLen):
    Mk P o ρ Γ (fun v N=>∃b,v= .slice (some ⟨b,0,none⟩) (List.replicate n z).length n∧N=[rows enc e size (some ⟨b,0,none⟩) n (List.replicate n z)]):=by
 have h:=Mk.makeN (P:=P) (Γ:=Γ) ho ht hx hy hb hc
 intro a w ha hs
 obtain⟨v,N,w',h1,⟨b,h2,h3⟩,h4⟩:=h a w ha hs
 refine⟨v,N,w',h1,⟨b,by rw[h2,List.length_replicate],?_⟩,h4⟩
 rw[h3,madeCells_listN _ n size hz hp]
 unfold rows
 rw[List.length_replicate]
 rw[List.flatMap_def,List.map_replicate]
end
variable{C:Cx}{ρ:Slots}{K:Act→World→Prop}{Γ:List Chunk}{c:Chunk}
theorem To.up1{c0:Chunk}(k:To C ρ (c::c0::Γ) K):To C ρ (c0::c::Γ) K:=To.perm (List.perm_middle (l₁:=[c0])) k
theorem To.up2{c0 c1:Chunk}(k:To C ρ (c::c0::c1::Γ) K):To C ρ (c0::c1::c::Γ) K:=To.perm (List.perm_middle (l₁:=[c0,c1])) k
theorem To.up3{c0 c1 c2:Chunk}(k:To C ρ (c::c0::c1::c2::Γ) K):To C ρ (c0::c1::c2::c::Γ) K:=To.perm (List.perm_middle (l₁:=[c0,c1,c2])) k
theorem To.up4{c0 c1 c2 c3:Chunk}(k:To C ρ (c::c0::c1::c2::c3::Γ) K):To C ρ (c0::c1::c2::c3::c::Γ) K:=To.perm (List.perm_middle (l₁:=[c0,c1,c2,c3])) k
theorem To.up5{c0 c1 c2 c3 c4:Chunk}(k:To C ρ (c::c0::c1::c2::c3::c4::Γ) K):To C ρ (c0::c1::c2::c3::c4::c::Γ) K:=To.perm (List.perm_middle (l₁:=[c0,c1,c2,c3,c4])) k
theorem To.up6{c0 c1 c2 c3 c4 c5:Chunk}(k:To C ρ (c::c0::c1::c2::c3::c4::c5::Γ) K):To C ρ (c0::c1::c2::c3::c4::c5::c::Γ) K:=To.perm (List.perm_middle (l₁:=[c0,c1,c2,c3,c4,c5])) k
theorem To.up7{c0 c1 c2 c3 c4 c5 c6:Chunk}(k:To C ρ (c::c0::c1::c2::c3::c4::c5::c6::Γ) K):To C ρ (c0::c1::c2::c3::c4::c5::c6::c::Γ) K:=To.perm (List.perm_middle (l₁:=[c0,c1,c2,c3,c4,c5,c6])) k
theorem To.up8{c0 c1 c2 c3 c4 c5 c6 c7:Chunk}(k:To C ρ (c::c0::c1::c2::c3::c4::c5::c6::c7::Γ) K):To C ρ (c0::c1::c2::c3::c4::c5::c6::c7::c::Γ) K:=To.perm (List.perm_middle (l₁:=[c0,c1,c2,c3,c4,c5,c6,c7])) k
theorem To.del0(k:To C ρ (Γ) K):To C ρ (c::Γ) K:=To.perm (List.perm_middle (l₁:=[])) (To.perm (List.perm_append_comm (l₁:=[c])) (To.drop k))
theorem To.del1{c0:Chunk}(k:To C ρ (c0::Γ) K):To C ρ (c0::c::Γ) K:=To.perm (List.perm_middle (l₁:=[c0])) (To.perm (List.perm_append_comm (l₁:=[c])) (To.drop k))
theorem To.del2{c0 c1:Chunk}(k:To C ρ (c0::c1::Γ) K):To C ρ (c0::c1::c::Γ) K:=To.perm (List.perm_middle (l₁:=[c0,c1])) (To.perm (List.perm_append_comm (l₁:=[c])) (To.drop k))
theorem To.del3{c0 c1 c2:Chunk}(k:To C ρ (c0::c1::c2::Γ) K):To C ρ (c0::c1::c2::c::Γ) K:=To.perm (List.perm_middle (l₁:=[c0,c1,c2])) (To.perm (List.perm_append_comm (l₁:=[c])) (To.drop k))
theorem To.del4{c0 c1 c2 c3:Chunk}(k:To C ρ (c0::c1::c2::c3::Γ) K):To C ρ (c0::c1::c2::c3::c::Γ) K:=To.perm (List.perm_middle (l₁:=[c0,c1,c2,c3])) (To.perm (List.perm_append_comm (l₁:=[c])) (To.drop k))
theorem To.del5{c0 c1 c2 c3 c4:Chunk}(k:To C ρ (c0::c1::c2::c3::c4::Γ) K):To C ρ (c0::c1::c2::c3::c4::c::Γ) K:=To.perm (List.perm_middle (l₁:=[c0,c1,c2,c3,c4])) (To.perm (List.perm_append_comm (l₁:=[c])) (To.drop k))
theorem To.del6{c0 c1 c2 c3 c4 c5:Chunk}(k:To C ρ (c0::c1::c2::c3::c4::c5::Γ) K):To C ρ (c0::c1::c2::c3::c4::c5::c::Γ) K:=To.perm (List.perm_middle (l₁:=[c0,c1,c2,c3,c4,c5])) (To.perm (List.perm_append_comm (l₁:=[c])) (To.drop k))
theorem To.del7{c0 c1 c2 c3 c4 c5 c6:Chunk}(k:To C ρ (c0::c1::c2::c3::c4::c5::c6::Γ) K):To C ρ (c0::c1::c2::c3::c4::c5::c6::c::Γ) K:=To.perm (List.perm_middle (l₁:=[c0,c1,c2,c3,c4,c5,c6])) (To.perm (List.perm_append_comm (l₁:=[c])) (To.drop k))
theorem To.del8{c0 c1 c2 c3 c4 c5 c6 c7:Chunk}(k:To C ρ (c0::c1::c2::c3::c4::c5::c6::c7::Γ) K):To C ρ (c0::c1::c2::c3::c4::c5::c6::c7::c::Γ) K:=To.perm (List.perm_middle (l₁:=[c0,c1,c2,c3,c4,c5,c6,c7])) (To.perm (List.perm_append_comm (l₁:=[c])) (To.drop k))
class Bx(Γ:List Chunk)(b:Nat)(i:outParam Nat)(cs:outParam (List Value))(t:outParam Nat):Prop where h:Γ[i]?=some (box b cs t)
instance Bx.s{Γ:List Chunk}{c:Chunk}{b i t:Nat}{cs:List Value} [h:Bx Γ b i cs t]:Bx (c::Γ) b (i+1) cs t:=⟨h.h⟩
instance Bx.o{Γ:List Chunk}{b t:Nat}{cs:List Value}:Bx (box b cs t::Γ) b 0 cs t:=⟨rfl⟩
class Ro(Γ:List Chunk)(A:Option Addr)(α:outParam Type)(enc:outParam (α→List Value))(l:outParam (List α)):Prop where h:∃i:Nat,Γ[i]?=some (ros enc A l)
instance Ro.s{Γ:List Chunk}{c:Chunk}{A:Option Addr}{α:Type}{enc:α→List Value}{l:List α} [h:Ro Γ A α enc l]:Ro (c::Γ) A α enc l:=⟨h.h.elim fun i h=>⟨i+1,h⟩⟩
instance Ro.o{Γ:List Chunk}{A:Option Addr}{α:Type}{enc:α→List Value}{l:List α}:Ro (ros enc A l::Γ) A α enc l:=⟨0,rfl⟩
class Rr(Γ:List Chunk)(A:Option Addr)(α:outParam Type)(enc:outParam (α→List Value))(e size cap:outParam Nat)(l:outParam (List α)):Prop where h:∃i:Nat,Γ[i]?=some (rows enc e size A cap l)
instance Rr.s{Γ:List Chunk}{c:Chunk}{A:Option Addr}{α:Type}{enc:α→List Value}{e size cap:Nat}{l:List α} [h:Rr Γ A α enc e size cap l]:Rr (c::Γ) A α enc e size cap l:=⟨h.h.elim fun i h=>⟨i+1,h⟩⟩
instance Rr.o{Γ:List Chunk}{A:Option Addr}{α:Type}{enc:α→List Value}{e size cap:Nat}{l:List α}:Rr (rows enc e size A cap l::Γ) A α enc e size cap l:=⟨0,rfl⟩
theorem flat0:flat []=[]:=rfl
theorem flat1{i:Nat}{c:List Chunk}{N:News}:flat ((i,c)::N)=c++flat N:=rfl
theorem avail0{d:List Nat}:avail [] d=[]:=rfl
theorem avail1{i:Nat}{c:List Chunk}{N:News}{d:List Nat}:avail ((i,c)::N) d=(bif d.any (Nat.beq i)then c else [])++avail N d:=rfl
theorem nrm{α:Sort _}{a b:α}(h:a=b:=by(try dsimp only[List.set,List.eraseIdx,List.cons_append,List.nil_append,flat0,flat1,avail0,avail1,List.any,Nat.beq,cond,Bool.or]);(try exact rfl)):a=b:=h
section
variable{P:Program}{o:Oper}{ρ:Slots}{Γ Γ':List Chunk}{x y z:Operand}{u v:Value}
theorem Rd.bx{ty b off i t:Nat}{cs:List Value}(ho:o.op= .load ty x)(hx:ev ρ x=some (.pointer (some ⟨b,off,none⟩))) [ht:CellTy P ty] [hi:Bx Γ b i cs t](hu:cs[off]?=some v:=by rfl):Rd P o ρ Γ v:=Rd.ld ho hx ht hi.h (bg1 hu)
theorem Rd.bxS{ty b i t n:Nat}{cs:List Value}(ho:o.op= .load ty x)(hx:ev ρ x=some (pv b)) [ht:RowTy P ty n] [hi:Bx Γ b i cs t](hu:cs.length=n:=by rfl):Rd P o ρ Γ (.agg cs.toArray):=Rd.lS ho hx ht hi.h box_whole hu
section
variable{α:Type}{enc:α→List Value}{size t e bytes cap j ty f:Nat}{zs:List Value}{A:Option Addr}{l:List α}{k:IntKind}{el:α}
theorem Rd.ixO(ho:o.op= .indexAddr t x y)(hx:ev ρ x=some (.slice A l.length cap))(hy:ev ρ y=some (.int k j)) [ht:SliceTy P t e size bytes zs] [hr:Ro Γ A α enc l] [hE:Enc enc size](hj:l[j]?=some el:=by assumption):Rd P o ρ Γ (.pointer (some ⟨blk A,ofs A+j*size,none⟩)):=by
 obtain⟨i,hi⟩:=hr.h
 exact Rd.ixo hE ho hx hy ht hi hj
theorem Rd.ixW{ie:Nat}(ho:o.op= .indexAddr t x y)(hx:ev ρ x=some (.slice A l.length cap))(hy:ev ρ y=some (.int k j)) [ht:SliceTy P t e size bytes zs] [hr:Rr Γ A α enc ie size cap l](hj:l[j]?=some el:=by assumption):Rd P o ρ Γ (.pointer (some ⟨blk A,ofs A+j*size,none⟩)):=by
 obtain⟨i,hi⟩:=hr.h
 exact Rd.ixr ho hx hy ht hi hj
theorem Rd.lsO(ho:o.op= .load ty x)(hx:ev ρ x=some (.pointer (some ⟨blk A,ofs A+j*size,none⟩))) [ht:RowTy P ty size] [hr:Ro Γ A α enc l] [hE:Enc enc size](hj:l[j]?=some el:=by assumption):Rd P o ρ Γ (.agg (enc el).toArray):=by
 obtain⟨i,hi⟩:=hr.h
 exact Rd.lS ho hx ht hi (rsg hE hj) (hE.len _)
theorem Rd.lsW{ie:Nat}(ho:o.op= .load ty x)(hx:ev ρ x=some (.pointer (some ⟨blk A,ofs A+j*size,none⟩))) [ht:RowTy P ty size] [hr:Rr Γ A α enc ie size cap l] [hE:Enc enc size](hj:l[j]?=some el:=by assumption):Rd P o ρ Γ (.agg (enc el).toArray):=by
 obtain⟨i,hi⟩:=hr.h
 exact Rd.lS ho hx ht hi (rwg hE hj) (hE.len _)
theorem Rd.leO(ho:o.op= .load ty x)(hx:ev ρ x=some (.pointer (some ⟨blk A,ofs A+j*size+f,none⟩))) [ht:CellTy P ty] [hr:Ro Γ A α enc l] [hE:Enc enc size](hj:l[j]?=some el:=by assumption)(hu:(enc el)[f]?=some v:=by rfl):Rd P o ρ Γ v:=by
 obtain⟨i,hi⟩:=hr.h
 exact Rd.ld ho hx ht hi (gvt (rsg hE hj) hu)
theorem Rd.leW{ie:Nat}(ho:o.op= .load ty x)(hx:ev ρ x=some (.pointer (some ⟨blk A,ofs A+j*size+f,none⟩))) [ht:CellTy P ty] [hr:Rr Γ A α enc ie size cap l] [hE:Enc enc size](hj:l[j]?=some el:=by assumption)(hu:(enc el)[f]?=some v:=by rfl):Rd P o ρ Γ v:=by
 obtain⟨i,hi⟩:=hr.h
 exact Rd.ld ho hx ht hi (gvt (rwg hE hj) hu)
theorem Rd.l1O(ho:o.op= .load ty x)(hx:ev ρ x=some (.pointer (some ⟨blk A,ofs A+j*size,none⟩))) [ht:CellTy P ty] [hr:Ro Γ A α enc l] [hE:Enc enc size](hj:l[j]?=some el:=by assumption)(hu:enc el=[v]:=by rfl):Rd P o ρ Γ v:=by
 obtain⟨i,hi⟩:=hr.h
 exact Rd.ld ho hx ht hi (gives_1 (rsg hE hj) hu)
theorem Rd.l1W{ie:Nat}(ho:o.op= .load ty x)(hx:ev ρ x=some (.pointer (some ⟨blk A,ofs A+j*size,none⟩))) [ht:CellTy P ty] [hr:Rr Γ A α enc ie size cap l] [hE:Enc enc size](hj:l[j]?=some el:=by assumption)(hu:enc el=[v]:=by rfl):Rd P o ρ Γ v:=by
 obtain⟨i,hi⟩:=hr.h
 exact Rd.ld ho hx ht hi (gives_1 (rwg hE hj) hu)
end
theorem Rd.ft{s f k b off:Nat}(ho:o.op= .fieldAddr s x f)(hx:ev ρ x=some (.pointer (some ⟨b,off,none⟩))) [hf:FieldTy P s f k]:Rd P o ρ Γ (.pointer (some ⟨b,off+k,none⟩)):=Rd.field ho hx hf
theorem Rd.ln{A:Option Addr}{n c t e s b:Nat}{zs:List Value}(ho:o.op= .call {callee:= .builtin .len,args:=#[x],argTypes:=#[t]})(hx:ev ρ x=some (.slice A n c)) [ht:SliceTy P t e s b zs]:Rd P o ρ Γ (.int .i64 n):=Rd.len ho hx ht.und
theorem rda(h:Rd P o ρ Γ v:=by first|exact Rd.move rfl rfl|exact Rd.ft rfl rfl|exact Rd.nilCheck rfl rfl|exact Rd.assign rfl rfl|exact Rd.ln rfl rfl|exact Rd.eql rfl rfl rfl|exact Rd.neq rfl rfl rfl|exact Rd.lss rfl rfl rfl|exact Rd.leq rfl rfl rfl|exact Rd.gtr rfl rfl rfl|exact Rd.geq rfl rfl rfl|exact Rd.pickF rfl rfl rfl|exact Rd.pickT rfl rfl rfl|exact Rd.inc rfl rfl rfl (by omega)|exact Rd.extract rfl rfl rfl|exact Rd.not rfl rfl):Rd P o ρ Γ v:=h
end
structure Zs(n:Nat)(G:Prop):Prop where
 go:G
section
variable{H:Prop}{n:Nat}{P:Program}{C:Cx}{ρ:Slots}{Γ Γ':List Chunk}{K:Act→World→Prop}{Q Q':Exit→Act→World→Prop}{ops:Array Oper}{rest:List Oper}{o:Oper}{v:Value}{d:Nat}{X Y:Code}{id:Nat}
structure Kp(G:Prop):Prop where
 go:G
theorem Zs.zz{G:Prop}(k:Kp G):Zs 0 G:=⟨k.go⟩
theorem Zs.nm(h:Γ=Γ')(k:Zs n (To C ρ Γ' K)):Zs n (To C ρ Γ K):=by rw[h];exact k
theorem Zs.k(k:Zs n (To C ((d,undef)::ρ) Γ (wpList P ops Q rest)))(hg:grd ops ρ o=some false:=by rfl)(hd:o.dst=some d:=by rfl)(hn:Nat.blt d C.n=true:=by rfl):Zs (n+1) (To C ρ Γ (wpList P ops Q (o::rest))):=⟨To.sk hg hd hn k.go⟩
theorem Zs.r(h:Rd P o ρ Γ v)(k:Zs n (To C ((d,v)::ρ) Γ (wpList P ops Q rest)))(hg:grd ops ρ o=some true:=by rfl)(hd:o.dst=some d:=by rfl)(hn:Nat.blt d C.n=true:=by rfl):Zs (n+1) (To C ρ Γ (wpList P ops Q (o::rest))):=⟨To.rd hg hd hn h k.go⟩
theorem Zs.nn(k:Zs n (To C ρ Γ (Q .normal))):Zs (n+1) (To C ρ Γ (wpList P ops Q [])):=⟨k.go⟩
theorem Zs.t(k:Zs n (To C ρ Γ K)):Zs (n+1) (To C ρ Γ (Exit.then K Q' .normal)):=⟨k.go⟩
theorem Zs.tx(k:Zs n (To C ρ Γ (Q (.exit id)))):Zs (n+1) (To C ρ Γ (Exit.then K Q (.exit id))):=⟨k.go⟩
theorem Zs.tr(k:Zs n (To C ρ Γ (Q .ret))):Zs (n+1) (To C ρ Γ (Exit.then K Q .ret)):=⟨k.go⟩
theorem Zs.bn(k:Zs n (To C ρ Γ (Q .normal))):Zs (n+1) (To C ρ Γ (Exit.inBlock id Q .normal)):=⟨k.go⟩
theorem Zs.br(k:Zs n (To C ρ Γ (Q .ret))):Zs (n+1) (To C ρ Γ (Exit.inBlock id Q .ret)):=⟨k.go⟩
theorem Zs.bx(k:Zs n (To C ρ Γ (Q .normal))):Zs (n+1) (To C ρ Γ (Exit.inBlock id Q (.exit id))):=⟨To.bx k.go⟩
theorem Zs.by{i:Nat}(k:Zs n (To C ρ Γ (Q (.exit i))))(hne:Nat.beq i id=false:=by rfl):Zs (n+1) (To C ρ Γ (Exit.inBlock id Q (.exit i))):=⟨To.blockY hne k.go⟩
theorem Zs.q(k:Zs n (To C ρ Γ (X.wp P (Exit.then (Y.wp P Q) Q)))):Zs (n+1) (To C ρ Γ ((Code.seq X Y).wp P Q)):=⟨To.s k.go⟩
theorem Zs.g{l:List Oper}(k:Zs n (To C ρ Γ (wpList P l.toArray Q l))):Zs (n+1) (To C ρ Γ ((Code.region id l.toArray false).wp P Q)):=⟨To.g k.go⟩
theorem Zs.b(k:Zs n (To C ρ Γ (X.wp P (Exit.inBlock id Q)))):Zs (n+1) (To C ρ Γ ((Code.block id X).wp P Q)):=⟨To.b k.go⟩
theorem Zs.sp(k:Zs n (To C ρ Γ (Q .normal))):Zs (n+1) (To C ρ Γ (Code.skip.wp P Q)):=⟨To.sp k.go⟩
theorem Zs.ex(k:Zs n (To C ρ Γ (Q (.exit id)))):Zs (n+1) (To C ρ Γ ((Code.exit id).wp P Q)):=⟨To.ex k.go⟩
theorem Zs.rt(k:Zs n (To C ρ Γ (Q .ret))):Zs (n+1) (To C ρ Γ (Code.ret.wp P Q)):=⟨To.rt k.go⟩
theorem Zs.cT{c:Operand}(k:Zs n (To C ρ Γ (X.wp P Q)))(hc:ev ρ c=some (.bool true):=by rfl):Zs (n+1) (To C ρ Γ ((Code.cond c X Y).wp P Q)):=⟨To.condT hc k.go⟩
theorem Zs.cF{c:Operand}(k:Zs n (To C ρ Γ (Y.wp P Q)))(hc:ev ρ c=some (.bool false):=by rfl):Zs (n+1) (To C ρ Γ ((Code.cond c X Y).wp P Q)):=⟨To.condF hc k.go⟩
theorem Zs.u{x y:Operand}{ty b i t m:Nat}{us cs:List Value}(ho:o.op= .store ty x y)(hx:ev ρ x=some (pv b))(hy:ev ρ y=some (.agg us.toArray)) [ht:RowTy P ty m] [hi:Bx Γ b i cs t](k:Zs n (To C ρ (Γ.set i (box b us t)) (wpList P ops Q rest)))(hg:grd ops ρ o=some true:=by rfl)(hd:o.dst=none:=by rfl)(hl:us.length=m:=by rfl)(hv:us.all (·.oneCell')=true:=by rfl)(hc:us.length=cs.length:=by rfl):Zs (n+1) (To C ρ Γ (wpList P ops Q (o::rest))):=⟨To.up hg hd (Up.storeS ho hx hy ht hl hv hi.h (bta hc)) k.go⟩
theorem Zs.vv{x y:Operand}{ty b off i t:Nat}{cs:List Value}(ho:o.op= .store ty x y)(hx:ev ρ x=some (.pointer (some ⟨b,off,none⟩)))(hy:ev ρ y=some v) [ht:CellTy P ty] [hi:Bx Γ b i cs t](k:Zs n (To C ρ (Γ.set i (box b (cs.set off v) t)) (wpList P ops Q rest)))(hg:grd ops ρ o=some true:=by rfl)(hd:o.dst=none:=by rfl)(hv:v.oneCell'=true:=by rfl)(hc:Nat.blt off cs.length=true:=by rfl):Zs (n+1) (To C ρ Γ (wpList P ops Q (o::rest))):=⟨To.up hg hd (Up.store ho hx hy ht hv hi.h (bt1 hc)) k.go⟩
section
variable{T:Tel}{l:List Oper}{Θ:List Chunk}{R:Act→World→Prop}{ms:List Meta}{N:News}{i kd:Nat}{deps:List Nat}
theorem Zs.f0(ho:l[i]?=some o)(h:Rd P o ρ Θ v)(k:Zs n (FlowS P T l Θ R ms C ((d,v)::ρ) Γ N))(hg:grd l.toArray ρ o=some true:=by rfl)(hd:o.dst=some d:=by rfl)(hn:Nat.blt d C.n=true:=by rfl):Zs (n+1) (FlowS P T l Θ R (⟨i,deps,0⟩::ms) C ρ Γ N):=⟨Fw.free ho hg hd hn h k.go⟩
structure FlR(Δ:List Chunk)(P:Program)(T:Tel)(l:List Oper)(Θ:List Chunk)(R:Act→World→Prop)(ms:List Meta)(C:Cx)(ρ:Slots)(Γ:List Chunk)(N:News)(o:Oper):Prop where
 go:∃v d,Rd P o ρ Δ v∧grd l.toArray ρ o=some true∧o.dst=some d∧Nat.blt d C.n=true∧FlowS P T l Θ R ms C ((d,v)::ρ) Γ N
theorem Zs.f1{Δ:List Chunk}(ho:l[i]?=some o)(hn:avail N deps++Γ=Δ)(k:Zs (n+1) (FlR Δ P T l Θ R ms C ρ Γ N o)):Zs (n+1) (FlowS P T l Θ R (⟨i,deps,1⟩::ms) C ρ Γ N):=by
 obtain⟨v,d,h,hg,hd,hn',k2⟩:=k.go.go
 subst hn
 exact⟨Fw.rd ho hg hd hn' h k2⟩
theorem Zs.fr{Δ:List Chunk}(h:Rd P o ρ Δ v)(k:Zs n (FlowS P T l Θ R ms C ((d,v)::ρ) Γ N))(hg:grd l.toArray ρ o=some true:=by rfl)(hd:o.dst=some d:=by rfl)(hn:Nat.blt d C.n=true:=by rfl):Zs (n+1) (FlR Δ P T l Θ R ms C ρ Γ N o):=⟨⟨v,d,h,hg,hd,hn,k.go⟩⟩
theorem Zs.fs(ho:l[i]?=some o)(k:Zs n (FlowS P T l Θ R ms C ((d,undef)::ρ) Γ N))(hg:grd l.toArray ρ o=some false:=by rfl)(hd:o.dst=some d:=by rfl)(hn:Nat.blt d C.n=true:=by rfl)(hk:kd=0∨kd=1∨kd=3:=by decide)(hT:T i=none:=by rfl):Zs (n+1) (FlowS P T l Θ R (⟨i,deps,kd⟩::ms) C ρ Γ N):=⟨Fw.skip hk ho hg hd hn k.go hT⟩
theorem Zs.ff(k:Zs n (To C ρ (flat N++Γ) R)):Zs (n+1) (FlowS P T l Θ R [] C ρ Γ N):=⟨Fw.fin k.go⟩
end
theorem To.al{ty:Nat}{zs:List Value} [hz:ZeroTy P ty zs](k:∀b,To C ((d,pv b)::ρ) (box b zs ty::Γ) (wpList P ops Q rest))(hg:grd ops ρ o=some true:=by rfl)(hd:o.dst=some d:=by rfl)(hn:Nat.blt d C.n=true:=by rfl)(ho:o.op= .alloc ty:=by rfl):To C ρ Γ (wpList P ops Q (o::rest)):=To.alloc hg hd hn ho hz k
theorem To.bo{ty:Nat}{x:Operand}{u:Value}{us:List Value}(k:∀b,To C ((d,pv b)::ρ) (box b us ty::Γ) (wpList P ops Q rest))(hg:grd ops ρ o=some true:=by rfl)(hd:o.dst=some d:=by rfl)(hn:Nat.blt d C.n=true:=by rfl)(ho:o.op= .box ty x:=by rfl)(hx:ev ρ x=some u:=by rfl)(hu:u.cells=us.toArray:=by rfl):To C ρ Γ (wpList P ops Q (o::rest)):=To.boxed hg hd hn ho hx hu k
theorem To.z{G:Prop}(n:Nat)(k:H)(h:Kp H→Zs n G:=by intro k;repeat first|exact Zs.zz k|(with_reducible first|refine Zs.nn ?_|refine Zs.t ?_|refine Zs.q ?_|refine Zs.g ?_|refine Zs.b ?_|refine Zs.sp ?_|refine Zs.ex ?_|refine Zs.rt ?_|refine Zs.tx ?_|refine Zs.tr ?_|refine Zs.bn ?_|refine Zs.br ?_|refine Zs.bx ?_)|refine Zs.r rda ?_|refine Zs.k ?_|refine Zs.by ?_|refine Zs.cT ?_|refine Zs.cF ?_|refine Zs.f0 rfl rda ?_|refine Zs.fs rfl ?_|refine Zs.ff ?_|refine Zs.f0 rfl (Rd.bx rfl rfl) ?_|refine Zs.f0 rfl (Rd.bxS rfl rfl) ?_|refine Zs.f0 rfl (Rd.ixO rfl rfl rfl) ?_|refine Zs.f0 rfl (Rd.lsO rfl rfl) ?_|refine Zs.f0 rfl (Rd.leO rfl rfl) ?_|refine Zs.f0 rfl (Rd.l1O rfl rfl) ?_|refine Zs.f0 rfl (Rd.ixW rfl rfl rfl) ?_|refine Zs.f0 rfl (Rd.lsW rfl rfl) ?_|refine Zs.f0 rfl (Rd.leW rfl rfl) ?_|refine Zs.f0 rfl (Rd.l1W rfl rfl) ?_|(refine Zs.f1 rfl nrm ?_;first|refine Zs.fr rda ?_|refine Zs.fr (Rd.bx rfl rfl) ?_|refine Zs.fr (Rd.bxS rfl rfl) ?_|refine Zs.fr (Rd.ixO rfl rfl rfl) ?_|refine Zs.fr (Rd.lsO rfl rfl) ?_|refine Zs.fr (Rd.leO rfl rfl) ?_|refine Zs.fr (Rd.l1O rfl rfl) ?_|refine Zs.fr (Rd.ixW rfl rfl rfl) ?_|refine Zs.fr (Rd.lsW rfl rfl) ?_|refine Zs.fr (Rd.leW rfl rfl) ?_|refine Zs.fr (Rd.l1W rfl rfl) ?_)|(refine Zs.nm nrm ?_;first|refine Zs.r (Rd.bx rfl rfl) ?_|refine Zs.r (Rd.bxS rfl rfl) ?_|refine Zs.r (Rd.ixO rfl rfl rfl) ?_|refine Zs.r (Rd.lsO rfl rfl) ?_|refine Zs.r (Rd.leO rfl rfl) ?_|refine Zs.r (Rd.l1O rfl rfl) ?_|refine Zs.r (Rd.ixW rfl rfl rfl) ?_|refine Zs.r (Rd.lsW rfl rfl) ?_|refine Zs.r (Rd.leW rfl rfl) ?_|refine Zs.r (Rd.l1W rfl rfl) ?_|refine Zs.u rfl rfl rfl ?_|refine Zs.vv rfl rfl rfl ?_)):G:=(h ⟨k⟩).go
end
section
variable{P:Program}{o:Oper}{ρ:Slots}{Γ:List Chunk}{x y:Operand}{t t':TypeId}{a b j:Nat}
theorem Rd.cap{e:TypeId}{A:Option Addr}{n c:Nat}(ho:o.op= .call {callee:= .builtin .cap,args:=#[x],argTypes:=#[t]})(ht:P.underlying t=some (.slice e))(hx:ev ρ x=some (.slice A n c)):Rd P o ρ Γ (.int .i64 (c:Int)):=fun a w ha _=>by
 unfold execOp;simp[ho,resolve,invoke,builtin,ha.eval hx,Builtin.cap_,run_underlying ht,goInt]
theorem src_drop{α:Type}{enc:α→List Value}{size:Nat}(E:Enc enc size){A:Option Addr}{cap lo:Nat}{l:List α}{w:World}(hl:l.length≤cap)(hlo:lo≤l.length)(h:Src w A (l.flatMap enc)):Src w (slAt A cap lo size) ((l.drop lo).flatMap enc):=by
 have e1:(l.drop lo).flatMap enc=(l.flatMap enc).drop (lo*size):=by
  have hlen:((l.take lo).flatMap enc).length=lo*size:=by rw[E.flat_len,List.length_take,Nat.min_eq_left hlo]
  conv=>rhs;rw[←List.take_append_drop lo l,List.flatMap_append,←hlen,List.drop_left']
 by_cases hc:cap=lo
 · left
   rw[List.drop_eq_nil_of_le (by omega)];rfl
 · rw[slAt,if_neg hc]
   rcases h with h|⟨g,off,rfl,hr⟩
   ·left;rw[e1,h];simp
   · refine .inr ⟨g,off+lo*size,by simp only[Option.map_some,Addr.add_mid],fun j v hv=>?_⟩
     rw[e1,List.getElem?_drop]at hv
     have:=hr (lo*size+j) v hv
     rw[show off+lo*size+j=off+(lo*size+j) by omega]
     exact this
theorem oks_drop{α:Type}{enc:α→List Value}{size:Nat}(E:Enc enc size){A:Option Addr}{cap lo:Nat}{l:List α}(i:Nat)(h:Γ[i]?=some (ros enc A l))(hl:l.length≤cap)(hlo:lo≤l.length):∀w,oks Γ w→(ros enc (slAt A cap lo size) (l.drop lo)).holds w:=fun _ hw=>src_drop E hl hlo (hw _ (mog h))
theorem oks_dropRow{α:Type}{enc:α→List Value}{size:Nat}{e:TypeId}(E:Enc enc size){A:Option Addr}{cap lo:Nat}{l:List α}(i:Nat)(h:Γ[i]?=some (rows enc e size A cap l))(hl:l.length≤cap)(hlo:lo≤l.length):∀w,oks Γ w→(ros enc (slAt A cap lo size) (l.drop lo)).holds w:=fun w hw=>src_drop E hl hlo (oks_row i h w hw)
theorem To.tailR{C:Cx}{K:Act→World→Prop}{α:Type}{enc:α→List Value}{size:Nat}(E:Enc enc size){A:Option Addr}{l:List α}(cap lo i:Nat)(hi:Γ[i]?=some (ros enc A l))(hl:l.length≤cap)(hlo:lo≤l.length)(h:To C ρ (ros enc (slAt A cap lo size) (l.drop lo)::Γ) K):To C ρ Γ K:=by
 refine To.derive (ros enc (slAt A cap lo size) (l.drop lo)) rfl (fun g hg=>reads_at i hi ?_) (fun w hw=>oks_drop E i hi hl hlo w hw) h
 have h1:g∈rblks (slAt A cap lo size) ((l.drop lo).flatMap enc):=hg
 show g∈rblks A (l.flatMap enc)
 have e2:l.flatMap enc=(l.take lo).flatMap enc++(l.drop lo).flatMap enc:=by rw[←List.flatMap_append,List.take_append_drop]
 cases h2:(l.drop lo).flatMap enc with
 |nil=>rw[h2]at h1;simp[rblks]at h1
 | cons u us=>
   rw[h2]at h1
   have h3:g∈blks A:=by
    have h4:g∈blks (slAt A cap lo size):=h1
    rw[slAt]at h4
    split at h4
    ·exact h4
    · cases A with
      |none=>simp[blks]at h4
      | some a=>
        obtain⟨b,o,sp⟩:=a
        obtain⟨ad,h5,h6⟩:=mem_blks.1 h4
        simp only[Option.map_some,Option.some.injEq]at h5
        refine mem_blks.2 ⟨_,rfl,?_⟩
        rw[←h6,←h5]
        cases sp with
        |none=>rw[Addr.add_mid]
        |some p=>unfold Addr.add;split<;>rfl
   rw[e2,h2]
   cases h7:(l.take lo).flatMap enc with
   |nil=>exact h3
   |cons v vs=>exact h3
end
def plainOp2(o:Oper):Bool:=match o.op with
 | .move _| .assign _| .alloc _| .box _ _| .build _ _| .buildSlice _ _ _| .load _ _| .store _ _ _| .fieldAddr _ _ _| .binOp _ _ _ _ _| .indexAddr _ _ _| .slice _ _ _ _ _| .convert _ _ _| .nilCheck _=>true
 |_=>false
def tiedB(m p:Nat)(o:Oper):Bool:=o.after.toList.any fun e=>Region.binds .any e&&(Nat.beq e.on m||Nat.beq e.on p)
theorem plain_value2{o:Oper}(hp:plainOp2 o=true)(ρ:Operand→Value)(P:Program)(w w':World):(∀f args,(execOp ρ o).run P w≠ .ok (.enter f args) w')∧(∀row args,(execOp ρ o).run P w≠ .ok (.row row args) w'):=by
 have hv:∀s:Sem Value,(∀f args,(do pure (.value (←s)):Sem Next).run P w≠ .ok (.enter f args) w')∧(∀row args,(do pure (.value (←s)):Sem Next).run P w≠ .ok (.row row args) w'):=fun s=>by
  simp only[Sem.run_bind]
  cases s.run P w<;>simp[Result.andThen]
 have hu:∀s:Sem Unit,(∀f args,(do s;pure .skip:Sem Next).run P w≠ .ok (.enter f args) w')∧(∀row args,(do s;pure .skip:Sem Next).run P w≠ .ok (.row row args) w'):=fun s=>by
  simp only[Sem.run_bind]
  cases s.run P w<;>simp[Result.andThen]
 unfold plainOp2 at hp
 unfold execOp
 split at hp<;>rename_i he<;>first|exact absurd hp (by decide)|(simp only[he];first|exact hv _|exact hu _|(simp;done)|skip)
 all_goals
  constructor<;>intro f args<;>split<;>first|(simp[runtimePanic,goPanic];done)|(split<;>first|(simp[runtimePanic,goPanic];done)|skip)|skip
 all_goals
  have key:∀s:Program→Sem (Option Bool),∀u:Value,(∀f args,(do let p←program;let __do_lift←s p;if(__do_lift !=some false)=true then do(unsupported (Unsupported.noEntry "op/nilCheck.the method's receiver behind this interface value is a nil pointer, or cannot be seen to be none, and the arguments act or may panic (ledger 612)"):Sem Unit);pure (Next.value u)else pure (Next.value u):Sem Next).run P w≠ .ok (.enter f args) w')∧(∀f args,(do let p←program;let __do_lift←s p;if(__do_lift !=some false)=true then do(unsupported (Unsupported.noEntry "op/nilCheck.the method's receiver behind this interface value is a nil pointer, or cannot be seen to be none, and the arguments act or may panic (ledger 612)"):Sem Unit);pure (Next.value u)else pure (Next.value u):Sem Next).run P w≠ .ok (.row f args) w'):=fun s u=>by
   simp only[Sem.run_bind]
   cases Sem.run P program w with
   |halt a b=>simp[Result.andThen]
   | ok p w0=>
     simp only[Result.andThen_ok]
     cases(s p).run P w0 with
     |ok a w1=>simp only[Result.andThen];split<;>simp[unsupported]
     |halt a b=>simp[Result.andThen]
  first|exact(key (fun p=>nilAhead (p.types.size+Made.depth) _ _ _) _).1 f args|exact(key (fun p=>nilAhead (p.types.size+Made.depth) _ _ _) _).2 f args
section
variable{P:Program}{l:List Oper}{Q:Act→World→Prop}
end
section
variable{P:Program}{l:List Oper}{C:Cx}{ρ:Slots}{Γ:List Chunk}
end
section
variable{P:Program}{T:Tel}{l:List Oper}{C:Cx}{ρ:Slots}{Γ Θ:List Chunk}{Q:Act→World→Prop}{ms:List Meta}{N:List (Nat×List Chunk)}{i d:Nat}{deps:List Nat}{o:Oper}
end
abbrev fe(r:Option Nat):Fence:={Fence.wide with round:=r}
theorem callsIn_fe{r:Option Nat}{n:Nat}{P:Program}{f:FuncId}{args:Array Value}{w:World}{R:Ending→World→Prop}(h:Calls P f args w R):CallsIn (fe r) n P f args w R:=callsIn_wide.2 h
theorem rowsIn_fe{r:Option Nat}{n:Nat}{P:Program}{row:String}{args:Array Value}{w:World}{R:Value→World→Prop}(h:Rows P row args w R):RowsIn (fe r) n P row args w R:=fun c cs _=>by
 obtain⟨v,w',h1,h2⟩:=h c cs
 exact⟨v,w',h1,(stepsIn_wide (P:=P)).2 h2⟩
theorem semAt_run{r:Option Nat}{ρ:Operand→Value}{o:Oper}{P:Program}{w w':World}{x:Next}(h:(execOp ρ o).run P w= .ok x w')(hx:∀d,x≠ .defer d):(o.semAt r ρ).run P w= .ok x w':=by
 rw[Oper.semAt_eq r ρ o]
 ·exact h
 · intro c hc
   unfold execOp at h
   simp only[hc,Sem.run_bind]at h
   cases hr:(resolve ρ c o.type).run P w with
   | ok d w1=>
     rw[hr]at h
     simp[Result.andThen]at h
     exact hx _ h.1.symm
   |halt a b=>rw[hr]at h;simp[Result.andThen]at h
section rules
variable{P:Program}{C:Cx}{ρ ρ':Slots}{Γ Γ':List Chunk}{K:Act→World→Prop}{Q:Exit→Act→World→Prop}{r:Option Nat}
theorem ToR.seq{x y:Code}(h:To C ρ Γ (x.wpIn (fe r) 0 P (Exit.then (y.wpIn (fe r) 0 P Q) Q))):To C ρ Γ ((Code.seq x y).wpIn (fe r) 0 P Q):=fun a w ha hp=>wpIn_seq (h a w ha hp)
theorem ToR.skip(h:To C ρ Γ (Q .normal)):To C ρ Γ (Code.skip.wpIn (fe r) 0 P Q):=fun a w ha hp=>wpIn_skip (h a w ha hp)
theorem ToR.exit{id:Nat}(h:To C ρ Γ (Q (.exit id))):To C ρ Γ ((Code.exit id).wpIn (fe r) 0 P Q):=fun a w ha hp=>wpIn_exit (h a w ha hp)
theorem ToR.ret(h:To C ρ Γ (Q .ret)):To C ρ Γ (Code.ret.wpIn (fe r) 0 P Q):=fun a w ha hp=>wpIn_ret (h a w ha hp)
theorem ToR.block{id:Nat}{c:Code}(h:To C ρ Γ (c.wpIn (fe r) 0 P (Exit.inBlock id Q))):To C ρ Γ ((Code.block id c).wpIn (fe r) 0 P Q):=fun a w ha hp=>wpIn_block (h a w ha hp)
theorem ToR.condT{c:Operand}{x y:Code}(hc:ev ρ c=some (.bool true))(h:To C ρ Γ (x.wpIn (fe r) 0 P Q)):To C ρ Γ ((Code.cond c x y).wpIn (fe r) 0 P Q):=
 fun a w ha hp=>wpIn_cond_true (ha.sees.eval hc) (h a w ha hp)
theorem ToR.condF{c:Operand}{x y:Code}(hc:ev ρ c=some (.bool false))(h:To C ρ Γ (y.wpIn (fe r) 0 P Q)):To C ρ Γ ((Code.cond c x y).wpIn (fe r) 0 P Q):=
 fun a w ha hp=>wpIn_cond_false (ha.sees.eval hc) (h a w ha hp)
theorem ToR.cond{c:Operand}{x y:Code}{t:Bool}(hc:ev ρ c=some (.bool t))(h1:t=true→To C ρ Γ (x.wpIn (fe r) 0 P Q))(h2:t=false→To C ρ Γ (y.wpIn (fe r) 0 P Q)):To C ρ Γ ((Code.cond c x y).wpIn (fe r) 0 P Q):=
 fun a w ha hp=>wpIn_cond_split (ha.sees.eval hc) (fun e=>h1 e a w ha hp) (fun e=>h2 e a w ha hp)
theorem ToR.condP{c:Operand}{x y:Code}{p:Prop} [Decidable p](hc:ev ρ c=some (.bool (decide p)))(h1:p→To C ρ Γ (x.wpIn (fe r) 0 P Q))(h2:¬p→To C ρ Γ (y.wpIn (fe r) 0 P Q)):To C ρ Γ ((Code.cond c x y).wpIn (fe r) 0 P Q):=
 ToR.cond hc (fun e=>h1 (of_decide_eq_true e)) (fun e=>h2 (of_decide_eq_false e))
theorem ToR.reg{id:Nat}{l:List Oper}(h:To C ρ Γ (wpListIn (fe r) 0 P l.toArray Q l)):To C ρ Γ ((Code.region id l.toArray false).wpIn (fe r) 0 P Q):=fun a w ha hp=>wpIn_region_lit (h a w ha hp)
theorem ToR.nil{ops:Array Oper}(h:To C ρ Γ (Q .normal)):To C ρ Γ (wpListIn (fe r) 0 P ops Q []):=h
theorem wpIn_loop_ghost{F:Fence}{n:Nat}{a:Act}{w:World}{c:Code}(I:Nat→Act→World→Prop)(n₀:Nat)(h₀:I n₀ a w)
    (round:∀m a w,I m a w→c.wpIn F n P (Exit.then (fun a' w'=>∃n',n'<m∧I n' a' w') Q) a w):(Code.loop c).wpIn F n P Q a w:=by
 refine wpIn_loop (fun a w=>∃n,I n a w) (fun a w=>leastOf (fun n=>I n a w)) ⟨n₀,h₀⟩ ?_
 intro a w hI
 refine Go.wpIn_mono (round _ a w (leastOf_spec hI).1) ?_
 intro e a' w' hq
 cases e with
 | normal=>
   obtain⟨n',hlt,hI'⟩:=hq
   exact show(∃n,I n a' w')∧leastOf (fun n=>I n a' w')<leastOf (fun n=>I n a w)from⟨⟨n',hI'⟩,Nat.lt_of_le_of_lt ((leastOf_spec ⟨n',hI'⟩).2 n' hI') hlt⟩
 |exit id=>exact hq
 |goto l=>exact hq
 |ret=>exact hq
 |panic ch=>exact hq
 |outgrown=>exact hq
theorem ToR.loop{c:Code}(I:Nat→Slots→List Chunk→Prop)(m0:Nat)(h0:I m0 ρ Γ)(round:∀m ρ Γ,I m ρ Γ→To C ρ Γ (c.wpIn (fe r) 0 P (Exit.then (Again C I m) Q))):To C ρ Γ ((Code.loop c).wpIn (fe r) 0 P Q):=fun _ _ ha hp=>
 wpIn_loop_ghost (fun m a w=>∃ρ Γ,I m ρ Γ∧Has C.n C.ds ρ a∧Post C.Γ0 Γ C.w0 w) m0 ⟨ρ,Γ,h0,ha,hp⟩ fun m a w ⟨ρ,Γ,hI,ha,hp⟩=>round m ρ Γ hI a w ha hp
theorem To.wide{c:Code}(h:To C ρ Γ (c.wpIn (fe none) 0 P Q)):To C ρ Γ (c.wp P Q):=fun a w ha hp=>wpIn_wide.1 (h a w ha hp)
end rules
section walk
variable{P:Program}{o:Oper}{ρ:Slots}{Γ Γ':List Chunk}{C:Cx}{ops:Array Oper}{Q:Exit→Act→World→Prop}{rest:List Oper}{v:Value}{d:Nat}{r:Option Nat}{x:Operand}
theorem wpIn_of_run{a:Act}{w w':World}{v:Value}(hg:Region.wanted o (yielded ops a.tmps)=true)(hr:(execOp a.eval o).run P w= .ok (.value v) w')(k:wpListIn (fe r) 0 P ops Q rest (a.put o.dst v) w'):wpListIn (fe r) 0 P ops Q (o::rest) a w:=by
 refine wpListIn_step fun K hK=>?_
 rw[if_pos hg]
 refine⟨fun _ _=>trivial,?_⟩
 rw[show(o.semAt (fe r).round a.eval).run P w=_ from semAt_run hr (by simp)]
 exact hK _ _ k
theorem wpIn_of_skip{a:Act}{w w':World}(hg:Region.wanted o (yielded ops a.tmps)=true)(hr:(execOp a.eval o).run P w= .ok .skip w')(k:wpListIn (fe r) 0 P ops Q rest (a.put o.dst undef) w'):wpListIn (fe r) 0 P ops Q (o::rest) a w:=by
 refine wpListIn_step fun K hK=>?_
 rw[if_pos hg]
 refine⟨fun _ _=>trivial,?_⟩
 rw[show(o.semAt (fe r).round a.eval).run P w=_ from semAt_run hr (by simp)]
 exact hK _ _ k
theorem ToR.rd(hg:grd ops ρ o=some true)(hd:o.dst=some d)(hn:Nat.blt d C.n=true)(h:Rd P o ρ Γ v)(k:To C ((d,v)::ρ) Γ (wpListIn (fe r) 0 P ops Q rest)):To C ρ Γ (wpListIn (fe r) 0 P ops Q (o::rest)):=
 fun a w ha hp=>wpIn_of_run (grd_wanted hg ha.sees) (h a w ha.sees hp.sat.each) (by rw[hd];exact k _ w (ha.put hn) hp)
theorem ToR.sk(hg:grd ops ρ o=some false)(hd:o.dst=some d)(hn:Nat.blt d C.n=true)(k:To C ((d,undef)::ρ) Γ (wpListIn (fe r) 0 P ops Q rest)):To C ρ Γ (wpListIn (fe r) 0 P ops Q (o::rest)):=
 fun a w ha hp=>by
  refine wpListIn_step fun K hK=>?_
  rw[if_neg (by rw[grd_wanted hg ha.sees];simp),hd]
  exact⟨fun _ _=>trivial,hK _ _ (k _ w (ha.put hn) hp)⟩
theorem ToR.up(hg:grd ops ρ o=some true)(hd:o.dst=none)(h:Up P o ρ Γ Γ')(k:To C ρ Γ' (wpListIn (fe r) 0 P ops Q rest)):To C ρ Γ (wpListIn (fe r) 0 P ops Q (o::rest)):=
 fun a w ha hp=>by
  obtain⟨w',hr,hq⟩:=h a w ha.sees hp.sat
  refine wpIn_of_skip (grd_wanted hg ha.sees) hr ?_
  rw[hd]
  exact k a w' ha (hp.trans hq)
theorem ToR.mk{R:Value→List Chunk→Prop}(hg:grd ops ρ o=some true)(hd:o.dst=some d)(hn:Nat.blt d C.n=true)(h:Mk P o ρ Γ R)(k:∀v N,R v N→To C ((d,v)::ρ) (N++Γ) (wpListIn (fe r) 0 P ops Q rest)):To C ρ Γ (wpListIn (fe r) 0 P ops Q (o::rest)):=
 fun a w ha hp=>by
  obtain⟨v,N,w',hr,hR,hq⟩:=h a w ha.sees hp.sat.each
  refine wpIn_of_run (grd_wanted hg ha.sees) hr ?_
  rw[hd]
  exact k v N hR _ w' (ha.put hn) (hp.trans (hq.add hp.sat))
theorem ToR.ge{R:Value→List Chunk→Prop}(hg:grd ops ρ o=some true)(hd:o.dst=some d)(hn:Nat.blt d C.n=true)(h:Ge P o ρ Γ R)(k:∀v Γ',R v Γ'→To C ((d,v)::ρ) Γ' (wpListIn (fe r) 0 P ops Q rest)):To C ρ Γ (wpListIn (fe r) 0 P ops Q (o::rest)):=
 fun a w ha hp=>by
  obtain⟨v,Γ',w',hr,hR,hq⟩:=h a w ha.sees hp.sat
  refine wpIn_of_run (grd_wanted hg ha.sees) hr ?_
  rw[hd]
  exact k v Γ' hR _ w' (ha.put hn) (hp.trans hq)
theorem ToR.call{R:Value→List Chunk→Prop}{f:FuncId}{vs:List Value}{Γ1 Δ:List Chunk}(is:List Nat)(hg:grd ops ρ o=some true)(hd:o.dst=some d)(hn:Nat.blt d C.n=true)(he:Ent P o ρ f vs)(hp:pull Γ is=some (Γ1,Δ))
    (hc:Does P f vs Γ1 R) (k:∀v Γ',R v Γ'→To C ((d,v)::ρ) (Γ'++Δ) (wpListIn (fe r) 0 P ops Q rest)):To C ρ Γ (wpListIn (fe r) 0 P ops Q (o::rest)):=
 fun a w ha hq=>by
  refine wpListIn_step fun K hK=>?_
  rw[if_pos (grd_wanted hg ha.sees)]
  refine⟨fun _ _=>trivial,?_⟩
  rw[show(o.semAt (fe r).round a.eval).run P w=_ from semAt_run (he a w ha.sees) (by simp)]
  refine⟨fun h=>by simp[Fence.wide]at h,callsIn_fe ((hc w ((hq.sat.perm (pull_perm hp)).left)).mono ?_)⟩
  rintro e w' ⟨v,Γ',rfl,hR,hpost⟩
  show K _ _
  rw[hd]
  exact hK _ _ (k v Γ' hR _ w' (ha.put hn) (hq.trans (Post.at_ hp hq.sat hpost)))
theorem ToR.callQ{R:Value→List Chunk→Prop}{f:FuncId}{vs:List Value}{Γ1:List Chunk}(hg:grd ops ρ o=some true)(hd:o.dst=some d)(hn:Nat.blt d C.n=true)(he:Ent P o ρ f vs)(hc:Does P f vs Γ1 R)(hq:owns Γ1=[])(hs:∀w,oks Γ w→oks Γ1 w)
    (k:∀v Γ',R v Γ'→reads Γ'=[]∧To C ((d,v)::ρ) (Γ'++Γ) (wpListIn (fe r) 0 P ops Q rest)):To C ρ Γ (wpListIn (fe r) 0 P ops Q (o::rest)):=
 fun a w ha hp=>by
  refine wpListIn_step fun K hK=>?_
  rw[if_pos (grd_wanted hg ha.sees)]
  refine⟨fun _ _=>trivial,?_⟩
  rw[show(o.semAt (fe r).round a.eval).run P w=_ from semAt_run (he a w ha.sees) (by simp)]
  refine⟨fun h=>by simp[Fence.wide]at h,callsIn_fe ((hc w (sat_of_oks hq (hs w hp.sat.each))).mono ?_)⟩
  rintro e w' ⟨v,Γ',rfl,hR,hpost⟩
  show K _ _
  rw[hd]
  obtain⟨hr,hk⟩:=k v Γ' hR
  exact hK _ _ (hk _ w' (ha.put hn) (hp.trans ((quiet_post hq hpost hr).add hp.sat)))
theorem ToR.callV{f:FuncId}{vs:List Value}{Γ1:List Chunk}(hg:grd ops ρ o=some true)(hd:o.dst=some d)(hn:Nat.blt d C.n=true)(he:Ent P o ρ f vs)(hc:Does P f vs Γ1 (fun v' _=>v'=v))(hq:owns Γ1=[])(hs:∀w,oks Γ w→oks Γ1 w)
    (k:To C ((d,v)::ρ) Γ (wpListIn (fe r) 0 P ops Q rest)):To C ρ Γ (wpListIn (fe r) 0 P ops Q (o::rest)):=
 ToR.callQ (R:=fun v' Γ'=>v'=v∧Γ'=[]) hg hd hn he (fun w hw=>(hc w hw).mono fun e w' ⟨v',Γ',h1,h2,h3⟩=>⟨v',[],h1,⟨h2,rfl⟩,Post.drop (Γ':=[]) h3⟩) hq hs fun v' Γ' ⟨h1,h2⟩=>by subst h1 h2;exact⟨rfl,k⟩
theorem ToR.alloc{ty:TypeId}{zs:List Value}(hg:grd ops ρ o=some true)(hd:o.dst=some d)(hn:Nat.blt d C.n=true)(ho:o.op= .alloc ty)(hz:ZeroTy P ty zs)(k:∀b,To C ((d,pv b)::ρ) (box b zs ty::Γ) (wpListIn (fe r) 0 P ops Q rest)):To C ρ Γ (wpListIn (fe r) 0 P ops Q (o::rest)):=
 ToR.mk hg hd hn (Mk.alloc ho hz) fun _ _ ⟨b,h1,h2⟩=>by subst h1 h2;exact k b
theorem ToR.boxed{ty:TypeId}{u:Value}{us:List Value}(hg:grd ops ρ o=some true)(hd:o.dst=some d)(hn:Nat.blt d C.n=true)(ho:o.op= .box ty x)(hx:ev ρ x=some u)(hu:u.cells=us.toArray)(k:∀b,To C ((d,pv b)::ρ) (box b us ty::Γ) (wpListIn (fe r) 0 P ops Q rest)):To C ρ Γ (wpListIn (fe r) 0 P ops Q (o::rest)):=
 ToR.mk hg hd hn (Mk.box ho hx hu) fun _ _ ⟨b,h1,h2⟩=>by subst h1 h2;exact k b
theorem ToR.rdB{t:Bool}(hg:grd ops ρ o=some true)(hd:o.dst=some d)(hn:Nat.blt d C.n=true)(h:Rd P o ρ Γ (.bool t))(h1:t=true→To C ((d, .bool true)::ρ) Γ (wpListIn (fe r) 0 P ops Q rest))(h2:t=false→To C ((d, .bool false)::ρ) Γ (wpListIn (fe r) 0 P ops Q rest)):To C ρ Γ (wpListIn (fe r) 0 P ops Q (o::rest)):=by
 cases t
 ·exact ToR.rd hg hd hn h (h2 rfl)
 ·exact ToR.rd hg hd hn h (h1 rfl)
theorem ToR.rdP{p:Prop} [Decidable p](hg:grd ops ρ o=some true)(hd:o.dst=some d)(hn:Nat.blt d C.n=true)(h:Rd P o ρ Γ (.bool (decide p)))(h1:p→To C ((d, .bool true)::ρ) Γ (wpListIn (fe r) 0 P ops Q rest))(h2:¬p→To C ((d, .bool false)::ρ) Γ (wpListIn (fe r) 0 P ops Q rest)):To C ρ Γ (wpListIn (fe r) 0 P ops Q (o::rest)):=
 ToR.rdB hg hd hn h (fun e=>h1 (of_decide_eq_true e)) (fun e=>h2 (of_decide_eq_false e))
end walk
theorem OpTo.wpOpIn{P:Program}{ops:Array Oper}{Q:Exit→Act→World→Prop}{r:Option Nat}{i:Nat}{o:Oper}(ho:ops[i]?=some o){a:Act}{w:World}{K:Value→World→Prop}{K':Act→World→Prop}
    (k:OpTo P ops o a w K) (hk:∀v w',K v w'→K' (a.put o.dst v) w'):Go.wpOpIn (fe r) 0 P ops Q i K' a w:=by
 unfold Go.wpOpIn
 simp only[ho]
 unfold OpTo at k
 split at k
 · rename_i hw
   rw[if_pos hw]
   refine⟨fun _ _=>trivial,?_⟩
   unfold upTo at k
   split at k
   ·rename_i he;rw[show(o.semAt (fe r).round a.eval).run P w=_ from semAt_run he (by simp)];exact hk _ _ k
   ·rename_i he;rw[show(o.semAt (fe r).round a.eval).run P w=_ from semAt_run he (by simp)];exact hk _ _ k
   · rename_i he;rw[show(o.semAt (fe r).round a.eval).run P w=_ from semAt_run he (by simp)]
     refine⟨fun h=>by simp[Fence.wide]at h,callsIn_fe (Calls.mono k fun e w'' hh=>?_)⟩
     obtain⟨v,rfl,hv⟩:=hh
     exact hk _ _ hv
   · rename_i he;rw[show(o.semAt (fe r).round a.eval).run P w=_ from semAt_run he (by simp)]
     exact⟨fun h=>by simp[Fence.wide]at h,rowsIn_fe (Rows.mono k fun v w'' hv=>hk _ _ hv)⟩
   ·exact k.elim
 · rename_i hw
   rw[if_neg hw]
   exact⟨fun _ _=>trivial,hk _ _ k⟩
theorem AnyI.anyIn{P:Program}{ops:Array Oper}{r:Option Nat}{Q:Act→World→Prop}{R:Exit→Act→World→Prop}(hR:∀a w,Q a w→R .normal a w):∀(fuel:Nat) (listed:Array Bool) (a:Act) (w:World),AnyI P ops Q fuel listed a w→wpAnyIn (fe r) 0 P .any ops R fuel listed a w
 |0,_,_,_,h=>⟨h.1,hR _ _ h.2⟩
 |fuel+1,_,a,w,h=>⟨fun hr=>hR _ _ (h.1 hr),fun i hi=>by
     obtain⟨o,h1,h2⟩:=h.2 i hi
     exact OpTo.wpOpIn h1 h2 fun v w' hv=>AnyI.anyIn hR fuel _ _ _ hv⟩
theorem ToR.flow{P:Program}{C:Cx}{ρ:Slots}{Γ:List Chunk}{l:List Oper}{r:Option Nat}{id:Nat}{R:Exit→Act→World→Prop}(Θ:List Chunk)(ms:List Meta)(hm:P.follows .mixedOrders=true)(hB:flowB l ms=true)(hΘ:∀w,oks Γ w→oks Θ w)(h:FlowS P noT l Θ (R .normal) ms C ρ Γ []):To C ρ Γ ((Code.region id l.toArray true).wpIn (fe r) 0 P R):=
 fun a w ha hp=>wpIn_region_any hm (AnyI.anyIn (fun _ _ h=>h) _ _ _ _ (region_flow (oks Θ) ms hB (fun _ _=>oks_ext) (hΘ w hp.sat.each) (h a w [] ha hp trivial)))
def recd(l:Nat)(L:Loop)(s:LoopState)(p:Option Code):Chunk where
 owns:=[l]
 reads:=[]
 holds w:=w.heap[l]?=some (.loop {L with state:=s,pending:=p})
 loc w w' h hw:=by rw[h l (.inl (by simp))];exact hw
 lt w hw g hg:=by
  simp only[List.mem_singleton,List.not_mem_nil,or_false]at hg
  subst hg
  exact(Array.getElem?_eq_some_iff.1 hw).1
def dfr(D:Nat):Chunk where
 owns:=[D]
 reads:=[]
 holds w:=w.heap[D]?=some (.deferred (some []))
 loc w w' h hw:=by rw[h D (.inl (by simp))];exact hw
 lt w hw g hg:=by
  simp only[List.mem_singleton,List.not_mem_nil,or_false]at hg
  subst hg
  exact(Array.getElem?_eq_some_iff.1 hw).1
theorem keeps_putObj(w:World)(l:Nat)(o:Obj):Keeps (fun g=>g=l) w (w.putObj l o) where
 os:=rfl
 tape:=rfl
 output:=rfl
 size:=by simp
 drawn:=Nat.le_refl _
 block g _ hg:=World.putObj_heap_other (fun e=>hg (by rw[e]))
theorem post_putObj{w:World}{l:Nat}{o:Obj}{c c':Chunk}{Γ:List Chunk}(hs:sat (c::Γ) w)(hc:c.owns=[l])(hc':c'.owns=[l])(hr':c'.reads=[])(h:c'.holds (w.putObj l o)):Post (c::Γ) (c'::Γ) w (w.putObj l o):=by
 refine Post.frame (Γ:=[c]) (Γ':=[c']) (Δ:=Γ) hs ⟨⟨?_,?_,?_⟩,?_,?_,?_⟩
 ·intro x hx;rw[List.mem_singleton.1 hx];exact h
 ·simp[owns,hc']
 ·intro g hg;simp[reads,hr']at hg
 · refine(keeps_putObj w l o).mono fun g _ hg=>?_
   simp[owns,hc,hg]
 ·intro g hg _;simpa[owns,hc,hc']using hg
 ·intro g hg;simp[reads,hr']at hg
theorem post_alloc{w:World}{o:Obj}{c:Chunk}(hc:c.owns=[w.heap.size])(hr:c.reads=[])(h:c.holds (w.alloc o)):Post [] [c] w (w.alloc o):=by
 refine⟨⟨?_,?_,?_⟩,?_,?_,?_⟩
 ·intro x hx;rw[List.mem_singleton.1 hx];exact h
 ·simp[owns,hc]
 ·intro g hg;simp[reads,hr]at hg
 ·exact Keeps.of_ext ⟨(Below.refl _ w).alloc (Nat.le_refl _) _,Nat.le_refl _⟩
 · intro g hg hl
   have:g=w.heap.size:=by simpa[owns,hc]using hg
   omega
 ·intro g hg;simp[reads,hr]at hg
def RoundDoes(P:Program)(l:Nat)(args:List Value)(Γ:List Chunk)(R:Value→List Chunk→Prop):Prop:=
 ∀w,sat Γ w→∃f tmps assign body,(Instr.yield l args.toArray).run P w= .ok (.round l f tmps assign body) w∧
  RoundIn Fence.wide 0 P l f tmps assign body w fun e w'=>∃v Γ',e= .returned v∧R v Γ'∧Post Γ Γ' w w'
def EntY(P:Program)(o:Oper)(ρ:Slots)(l:Nat)(vs:List Value):Prop:=∀a w,Sees ρ a→(execOp a.eval o).run P w=(Instr.yield l vs.toArray).run P w
theorem EntY.of{P:Program}{o:Oper}{ρ:Slots}{l:Nat}{xs:List Operand}{ts:Array TypeId}{vs:List Value}{c:Operand}(ho:o.op= .call {callee:= .value c,args:=xs.toArray,argTypes:=ts})(hc:ev ρ c=some (.func (.yield l) #[] #[]))(hv:evs ρ xs=some vs):EntY P o ρ l vs:=fun a w ha=>by
 unfold execOp
 simp only[ho,resolve,ha.eval hc,List.map_toArray,ha.evals hv,Deferred.ofValue,invoke,Sem.run_bind,Sem.run_pure,Result.andThen_ok]
 simp
theorem ToR.round{P:Program}{o:Oper}{ρ:Slots}{Γ:List Chunk}{C:Cx}{ops:Array Oper}{Q:Exit→Act→World→Prop}{rest:List Oper}{d:Nat}{r:Option Nat}{R:Value→List Chunk→Prop}{l:Nat}{vs:List Value}{Γ1 Δ:List Chunk}(is:List Nat)(hg:grd ops ρ o=some true)(hd:o.dst=some d)(hn:Nat.blt d C.n=true)(he:EntY P o ρ l vs)(hp:pull Γ is=some (Γ1,Δ))
    (hc:RoundDoes P l vs Γ1 R) (k:∀v Γ',R v Γ'→To C ((d,v)::ρ) (Γ'++Δ) (wpListIn (fe r) 0 P ops Q rest)):To C ρ Γ (wpListIn (fe r) 0 P ops Q (o::rest)):=
 fun a w ha hq=>by
  refine wpListIn_step fun K hK=>?_
  rw[if_pos (grd_wanted hg ha.sees)]
  refine⟨fun _ _=>trivial,?_⟩
  obtain⟨f,tmps,assign,body,h1,h2⟩:=hc w ((hq.sat.perm (pull_perm hp)).left)
  have h3:(execOp a.eval o).run P w=_:=(he a w ha.sees).trans h1
  rw[show(o.semAt (fe r).round a.eval).run P w=_ from semAt_run h3 (by simp)]
  refine⟨fun h=>by simp[Fence.wide]at h,RoundIn.mono (F:=fe r) (n:=0) h2 ?_⟩
  rintro e w' ⟨v,Γ',rfl,hR,hpost⟩
  show K _ _
  rw[hd]
  exact hK _ _ (k v Γ' hR _ w' (ha.put hn) (hq.trans (Post.at_ hp hq.sat hpost)))
def begins(P:Program)(l:Nat)(K:Act→World→Prop)(a:Act)(w:World):Prop:=∃w2,(Instr.beginRound l).run P w= .ok () w2∧K a w2
section
variable{P:Program}{C:Cx}{ρ:Slots}{Γ:List Chunk}{K:Act→World→Prop}{l:Nat}{L:Loop}{R:Value→List Chunk→Prop}
theorem To.begins(h:To C ρ (recd l L .busy none::Γ) K):To C ρ (recd l L .ready none::Γ) (begins P l K):=fun a w ha hq=>by
 have hl:w.heap[l]?=some (.loop {L with state:= .ready,pending:=none}):=hq.sat.each _ (List.mem_cons_self ..)
 refine⟨_,run_beginRound hl rfl,h a _ ha (hq.trans (post_putObj hq.sat rfl rfl rfl ?_))⟩
 exact World.putObj_heap_same (Array.getElem?_eq_some_iff.1 hl).1
theorem To.roundN(h:R (.bool true) [all (recd l L .ready none::Γ)]):To C ρ (recd l L .busy none::Γ) (roundPost P l (Fin C R) .normal):=fun a w ha hq=>by
 have hl:w.heap[l]?=some (.loop {L with state:= .busy,pending:=none}):=hq.sat.each _ (List.mem_cons_self ..)
 refine⟨_,_,run_endRound none hl, .bool true,_,rfl,h,?_⟩
 have:=hq.trans (post_putObj (c':=recd l L .ready none) hq.sat rfl rfl rfl (World.putObj_heap_same (Array.getElem?_eq_some_iff.1 hl).1))
 exact⟨sat_all.2 (by simpa using this.sat),this.keeps,fun g hg=>this.own g (by simpa[owns,all]using hg),fun g hg=>this.rd g (by simpa[reads,all]using hg)⟩
end
theorem RoundDoes.of{P:Program}{l:Nat}{L:Loop}{p n:Nat}{v:Value}{ρ:Slots}{Γe Γc:List Chunk}{R:Value→List Chunk→Prop}{assign body:Code}(hp:L.params=#[p])(ha:L.assign=assign)(hb:L.body=body)(hL:Has n [] ρ ⟨L.tmps,[]⟩)(hn:Nat.blt p n=true)
    (h:∀w,To ⟨n,Γe++[all (recd l L .ready none::Γc)],w,[]⟩ ((p,v)::ρ) (recd l L .ready none::(Γe++Γc))
     (assign.wpIn (fe (some l)) 0 P (Exit.then (begins P l (body.wpIn (fe (some l)) 0 P (roundPost P l (Fin ⟨n,Γe++[all (recd l L .ready none::Γc)],w,[]⟩ R)))) (fun _ _ _=>False)))):
    RoundDoes P l [v] (Γe++[all (recd l L .ready none::Γc)]) R:=fun w hs=>by
 have hs1:sat (all (recd l L .ready none::Γc)::Γe) w:=hs.perm List.perm_append_comm
 have hs2:sat ((recd l L .ready none::Γc)++Γe) w:=sat_all.1 hs1
 have hs3:sat (recd l L .ready none::(Γe++Γc)) w:=hs2.perm (List.Perm.cons _ List.perm_append_comm)
 have hl:w.heap[l]?=some (.loop {L with state:= .ready,pending:=none}):=hs3.each _ (List.mem_cons_self ..)
 refine⟨_,_,_,_,run_yield hl (by simp[hp]),?_⟩
 refine roundIn_of_wpIn (F:=Fence.wide) trivial ?_
 have h0:=h w {tmps:=L.tmps.setIfInBounds p v,defers:=[]} w ?_ ?_
 · rw[ha,hb]
   have e1:((L.params.zip #[v]).foldl (fun tmps (x:Tmp×Value)=>tmps.setIfInBounds x.1 x.2) L.tmps)=L.tmps.setIfInBounds p v:=by rw[hp];simp
   show assign.wpIn (fe (some l)) 0 P _ ⟨(L.params.zip #[v]).foldl (fun tmps (x:Tmp×Value)=>tmps.setIfInBounds x.1 x.2) L.tmps,[]⟩ w
   rw[e1]
   exact h0
 ·exact hL.put hn
 · refine⟨hs3,Keeps.refl _ _,fun g hg _=>?_,fun g hg _=> .inr ?_⟩
   · have:g∈owns (recd l L .ready none::(Γe++Γc)):=hg
     rw[owns_append]
     simp only[owns,List.flatMap_cons,List.flatMap_append,List.mem_append,List.flatMap_nil,List.append_nil,all]at this⊢
     rcases this with h|h|h
     ·exact .inr (.inl h)
     ·exact .inl h
     ·exact .inr (.inr h)
   · have:g∈reads (recd l L .ready none::(Γe++Γc)):=hg
     rw[reads_append]
     simp only[reads,List.flatMap_cons,List.flatMap_append,List.mem_append,List.flatMap_nil,List.append_nil,all]at this⊢
     rcases this with h|h|h
     ·exact .inr (.inl h)
     ·exact .inl h
     ·exact .inr (.inr h)
def mark(D:Nat):Deferred:={target:= .collected D,args:=#[]}
theorem Does.enterR{P:Program}{f:FuncId}{args:List Value}{Γ:List Chunk}{R:Value→List Chunk→Prop}{fn:Func}{c:Code}{n:Nat}
    (hf:P.funcs[f]?=some fn) (hb:fn.body=some c) (hn:fn.ntmps=n) (hl:Nat.ble args.length n=true)
    (h:∀w,To ⟨n,Γ,w,[]⟩ (slotsOf 0 args) Γ (c.wpIn (fe none) 0 P (bodyPost P fn (Fin ⟨n,Γ,w,[]⟩ R)))):Does P f args Γ R:=
 Does.enter hf hb hn hl fun w=>To.wide (h w)
theorem Does.enterM{P:Program}{f:FuncId}{args:List Value}{Γ:List Chunk}{R:Value→List Chunk→Prop}{fn:Func}{c:Code}{n:Nat}
    (hf:P.funcs[f]?=some fn) (hb:fn.body=some c) (hn:fn.ntmps=n) (hl:Nat.ble args.length n=true)
    (h:∀w,To ⟨n,Γ,w,[]⟩ (slotsOf 0 args) Γ (c.wp P (bodyPostM Fence.wide 0 P fn (Fin ⟨n,Γ,w,[]⟩ R)))):Does P f args Γ R:=fun w hs=>by
 refine callsIn_wide.1 (callsIn_of_wp_marks (F:=Fence.wide) (n:=0) hf hb trivial (wpIn_wide.2 ?_) rfl)
 rw[hn]
 exact h w _ w (Has.start args n hl) (Post.refl hs)
theorem To.rangeFuncA{P:Program}{C:Cx}{ρ:Slots}{Γa Γc:List Chunk}{Q:Exit→Act→World→Prop}{g:Operand}{ps:Array Nat}{assign body:Code}{gf:FuncId}{lb:List Value}(Rn Rx:List Chunk→Prop)
    (hg:ev ρ g=some (.func (.func gf) #[] lb.toArray)) (hc:callable P gf=true)
    (h:∀l (L:Loop),L.params=ps→L.assign=assign→L.body=body→Has C.n [] ρ ⟨L.tmps,[]⟩→
     Does P gf (.func (.yield l) #[] #[]::lb) (Γa++[all (recd l L .ready none::Γc)]) (fun _ Γ'=>∃Γ2,(Γ'=[all (recd l L .ready none::Γ2)]∧Rn Γ2)∨(Γ'=[all (recd l L .done (some .ret)::Γ2)]∧Rx Γ2)))
    (k1:∀D Γ2,Rn Γ2→To ⟨C.n,C.Γ0,C.w0,mark D::C.ds⟩ ρ (dfr D::Γ2) (Q .normal))
    (k2:∀D Γ2,Rx Γ2→To ⟨C.n,C.Γ0,C.w0,mark D::C.ds⟩ ρ (dfr D::Γ2) (Q .ret)):To C ρ (Γa++Γc) ((Code.rangeFunc g ps assign body).wp P Q):=fun a w ha hq=>by
 refine wpIn_wide (n:=0).1 (wpIn_rangeFunc ?_)
 intro fn _
 let L:Loop:={state:= .ready,pending:=none,fn:=fn,tmps:=a.tmps,params:=ps,assign:=assign,body:=body,defers:=w.heap.size}
 have hgv:a.eval g= .func (.func gf) #[] lb.toArray:=ha.sees.eval hg
 let W1:=(w.alloc (.deferred (some []))).alloc (.loop L)
 have p1:Post [] [dfr w.heap.size] w (w.alloc (.deferred (some []))):=post_alloc rfl rfl (World.alloc_heap_new w _)
 have p2:Post [] [recd (w.heap.size+1) L .ready none] (w.alloc (.deferred (some []))) W1:=post_alloc (by rw[World.size_alloc];rfl) rfl (by
  have:=World.alloc_heap_new (w.alloc (.deferred (some []))) (.loop L)
  rw[World.size_alloc]at this
  exact this)
 have q1:=hq.trans (p1.add hq.sat)
 have q2:Post C.Γ0 (recd (w.heap.size+1) L .ready none::dfr w.heap.size::(Γa++Γc)) C.w0 W1:=q1.trans (p2.add q1.sat)
 refine⟨w.heap.size+1,[mark w.heap.size],W1,{target:= .fn (.func gf) lb.toArray,args:=#[.func (.yield (w.heap.size+1)) #[] #[]]},W1,gf,
  #[.func (.yield (w.heap.size+1)) #[] #[]]++lb.toArray,W1,?_,?_,fun _ _=>trivial,?_,fun h=>by simp[Fence.wide]at h,?_⟩
 ·exact run_enterLoop_outer _ _ _ _ _
 · simp only[resolve,hgv]
   simp[go_sem]
 ·simp[invoke,go_sem,run_callFunc hc]
 · refine callsIn_wide.2 ?_
   have hd:=h (w.heap.size+1) L rfl rfl rfl ⟨ha.size,rfl,fun t v ht=>ha.sees t v ht⟩
   -- the chunks, parted
   have pm:(recd (w.heap.size+1) L .ready none::dfr w.heap.size::(Γa++Γc)).Perm ((Γa++(recd (w.heap.size+1) L .ready none::Γc))++[dfr w.heap.size]):=by
    refine((List.Perm.swap _ _ _).trans ?_).trans (List.perm_append_comm (l₁:=[dfr w.heap.size]))
    exact List.Perm.cons _ List.perm_middle.symm
   have q3:=q2.perm pm
   have hs4:sat (Γa++[all (recd (w.heap.size+1) L .ready none::Γc)]) W1:=by
    have h1:=q3.sat.left
    have h2:sat ((recd (w.heap.size+1) L .ready none::Γc)++Γa) W1:=h1.perm List.perm_append_comm
    exact(sat_all.2 h2).perm (List.perm_append_comm (l₁:=[_]))
   have e0:#[Value.func (.yield (w.heap.size+1)) #[] #[]]++lb.toArray=(Value.func (.yield (w.heap.size+1)) #[] #[]::lb).toArray:=by simp
   rw[e0]
   refine(hd W1 hs4).mono ?_
   rintro e w3 ⟨v,Γ',rfl,⟨Γ2,hr⟩,hpost⟩
   -- the post over the parted chunks
   have flat:∀(s:LoopState) (pe:Option Code),Post (Γa++[all (recd (w.heap.size+1) L .ready none::Γc)]) [all (recd (w.heap.size+1) L s pe::Γ2)] W1 w3→Post C.Γ0 (recd (w.heap.size+1) L s pe::dfr w.heap.size::Γ2) C.w0 w3:=fun s pe hpost=>by
    have f1:Post (Γa++(recd (w.heap.size+1) L .ready none::Γc)) (recd (w.heap.size+1) L s pe::Γ2) W1 w3:=by
     have eo:∀g,g∈owns (Γa++[all (recd (w.heap.size+1) L .ready none::Γc)])↔g∈owns (Γa++(recd (w.heap.size+1) L .ready none::Γc)):=fun g=>by rw[owns_append,owns_append,List.mem_append,List.mem_append];simp[owns,all]
     have er:∀g,g∈reads (Γa++[all (recd (w.heap.size+1) L .ready none::Γc)])↔g∈reads (Γa++(recd (w.heap.size+1) L .ready none::Γc)):=fun g=>by rw[reads_append,reads_append,List.mem_append,List.mem_append];simp[reads,all]
     refine⟨by simpa using sat_all.1 hpost.sat,hpost.keeps.mono fun g _ hg=>(eo g).1 hg,fun g hg hl=>(eo g).1 (hpost.own g (by simpa[owns,all]using hg) hl),fun g hg hl=>?_⟩
     exact(hpost.rd g (by simpa[reads,all]using hg) hl).imp (eo g).1 (er g).1
    have f2:=q3.trans (f1.frame q3.sat)
    exact f2.perm (List.Perm.cons _ (List.perm_append_comm (l₂:=[dfr w.heap.size])))
   rcases hr with⟨rfl,hR⟩|⟨rfl,hR⟩
   · have f:=flat _ _ hpost
     have hl:w3.heap[w.heap.size+1]?=some (.loop {L with state:= .ready,pending:=none}):=f.sat.each _ (List.mem_cons_self ..)
     refine⟨none,_,run_endLoop hl (by simp),?_⟩
     refine k1 w.heap.size Γ2 hR _ _ ⟨ha.size,by simp[mark,ha.defers],fun t v ht=>ha.sees t v ht⟩ ?_
     have:=f.trans (post_putObj (c':=recd (w.heap.size+1) L .exhausted none) f.sat rfl rfl rfl (World.putObj_heap_same (Array.getElem?_eq_some_iff.1 hl).1))
     exact(this.perm (List.perm_append_comm (l₁:=[_]))).drop
   · have f:=flat _ _ hpost
     have hl:w3.heap[w.heap.size+1]?=some (.loop {L with state:= .done,pending:=some .ret}):=f.sat.each _ (List.mem_cons_self ..)
     refine⟨some .ret,_,run_endLoop hl (by simp),wpIn_ret ?_⟩
     refine k2 w.heap.size Γ2 hR _ _ ⟨ha.size,by simp[mark,ha.defers],fun t v ht=>ha.sees t v ht⟩ ?_
     have:=f.trans (post_putObj (c':=recd (w.heap.size+1) L .exhausted (some .ret)) f.sat rfl rfl rfl (World.putObj_heap_same (Array.getElem?_eq_some_iff.1 hl).1))
     exact(this.perm (List.perm_append_comm (l₁:=[_]))).drop
end Go.Sep

/- Own text. -/
import Derived.Test.YtlihklladkagpaaGreatDoorL2
import Derived.ChangeKeysEq
import Derived.ArgAppend
import Derived.Lib.AppendZeros
import Derived.RangeFuncIn
import Derived.RangeFuncRecord
import Derived.RangeFuncLeaves
import Derived.OrdersIn
import Derived.TacticsIn
set_option linter.unusedVariables false
set_option linter.unusedSimpArgs false
namespace Go.Sep
open Go.RowKit Go.Flow Go.Mem
section
variable{P:Program}{o:Oper}{ρ:Cb}{Γ:List Ai}{x y:Operand}
structure QA(P:Program)(K:TypeId):Prop where
 und:∃e i,P.underlying K=some (.array 2 e)∧P.underlying e=some (.int .i64)∧P.info? e=some i∧P.cellsOf e=1
 guard:P.eqGuardType P.depth K=false
theorem QA.eq{K:TypeId}(T:QA P K)(d:Nat)(a b c e:Int)(w:World):
    (Op.equalIn (d+2) K (.agg #[.int .i64 a, .int .i64 b]) (.agg #[.int .i64 c, .int .i64 e])).run P w= .ok (decide ((a,b)=(c,e))) w:=by
 obtain⟨et,i,h1,h2,h3,h4⟩:=T.und
 rw[run_equalIn_array w (d+1) _ _ h1 h3,h4]
 have p0:∀u v:Int,(part et #[.int .i64 u, .int .i64 v] 0).run P w= .ok (.int .i64 u) w:=fun u v=>by simp[part,isAgg,run_underlying h2]
 have p1:∀u v:Int,(part et #[.int .i64 u, .int .i64 v] 1).run P w= .ok (.int .i64 v) w:=fun u v=>by simp[part,isAgg,run_underlying h2]
 have hr:List.range 2=[0,1]:=rfl
 rw[hr]
 simp only[Op.eqItems,Sem.run_bind,Nat.zero_mul,Nat.one_mul,p0,p1,Result.andThen_ok,run_equalIn_int _ d et .i64 .i64 _ _ h2,Sem.run_ite]
 by_cases e1:a=c<;>by_cases e2:b=e<;>simp[e1,e2]
theorem JD{K t':TypeId}{p q:Int×Int}(T:QA P K)(ho:o.op= .binOp .neq K x y t')(hx:ev ρ x=some (.agg #[.int .i64 p.1, .int .i64 p.2]))(hy:ev ρ y=some (.agg #[.int .i64 q.1, .int .i64 q.2])):Rd P o ρ Γ (.bool (decide (p≠q))):=Rd.bin ho hx hy fun w=>by
 have g:(eqGuard .neq K x y (.agg #[.int .i64 p.1, .int .i64 p.2]) (.agg #[.int .i64 q.1, .int .i64 q.2])).run P w= .ok () w:=run_eqGuard_agg w .neq K x y _ _ T.guard
 have h:(binOp .neq K (.agg #[.int .i64 p.1, .int .i64 p.2]) (.agg #[.int .i64 q.1, .int .i64 q.2])).run P w= .ok (.bool (decide (p≠q))) w:=by
  rw[run_neq_struct,T.eq 9998 p.1 p.2 q.1 q.2 w]
  show Result.ok (Value.bool (!decide ((p.1,p.2)=(q.1,q.2)))) w=_
  rw[←decide_not]
 simp[g,h]
end
theorem Mw{Γ:List Ai}{w:World}{α:Type}{enc:α→List Value}{size:Nat}{e:TypeId}{A:OA}{cap:Nat}{l:List α}(i:Nat)(h:Γ[i]?=some (rows enc e size A cap l))(hs:sat Γ w):l.length≤cap:=by
 obtain⟨A',cap',h1,_,h2,_⟩:=Qn (show w.ownsRow 0 e size (.slice A l.length cap) l.length _ from hs.each _ (mog h))
 simp only[Value.slice.injEq]at h1
 omega
theorem dE{P:Program}{o:Oper}{ρ:Cb}{Γ:List Ai}{x y:Operand}{α:Type}{enc:α→List Value}{size:Nat}(E:Enc enc size)(hpos:0<size){t e:TypeId}{bytes:Nat}{zs us:List Value}{A B:OA}{cap cb i j k:Nat}{D:List α}{el:α}
    (ho:o.op= .call {callee:= .builtin .append,args:=#[x,y],argTypes:=#[t,t]}) (ht:Ci P t e size bytes zs) (hx:ev ρ x=some (.slice A k cap)) (hy:ev ρ y=some (.slice B 1 cb)) (hi:Γ[i]?=some (rows enc e size A cap D)) (hj:Γ[j]?=some (row e size B 1 cb us)) (hu:enc el=us) (hk:k<D.length):
    Ge P o ρ Γ (fun v Γ'=>v= .slice A (k+1) cap∧Γ'=Γ.set i (rows enc e size A cap (D.set k el))):=fun a w ha hs=>by
 obtain⟨it,zv,h2,h3,h4,h5,h6⟩:=ht.inf
 have hA:=Oe E hpos (l:=D) om i hi hs
 have hcap:=Mw i hi hs
 obtain⟨h7,h8⟩:=Dj.takes (Ee E hpos (e:=e) (A:=A) (cap:=cap) (y:=el) hk) ((hs.perm (Km hi)).left (Γ:=[rows enc e size A cap D]))
 have hl:us.length=1*it.size:=by rw[←hu,E.len,h4,Nat.one_mul]
 have hne:us≠[]:=fun h=>by rw[h]at hl;simp at hl;omega
 have hsrc:=Rb hj w hs
 rcases hsrc with h9|⟨g,off,rfl,hr⟩
 ·exact absurd h9 hne
 refine⟨_,_,_,?_,⟨rfl,rfl⟩,Dj.set hi hs h8⟩
 rw[hu]at h7⊢
 have hrun:=run_append_room_cells (P:=P) w t o.type e it ht.und h2 (blk A) (ofs A) k cap ⟨g,off,none⟩ 1 cb us hl (fun q u hq=>by rw[Addr.add_mid];exact hr q u hq) (fun u hm=>E.one el u (hu▸hm)) om (fun q hq=>by rw[h4];exact(h7 q hq).1) (fun q hq=>by rw[h4];exact(h7 q hq).2)
 rw[h4]at hrun
 rw[hA]at hx
 unfold execOp
 simp only[ho,resolve,invoke,builtin,Sem.run_bind,Sem.run_pure,Result.andThen_ok,List.map_toArray,aFn,List.map_nil,ha.eval hx,ha.eval hy,hrun]
 rw[←hA]
theorem lZ{zs:List Value}{s:Nat}(hs:zs.length=s)(hp:0<s):∀(n k:Nat),(List.replicate n zs).flatten[k]?=if k<n*s then zs[k%s]? else none
 |0,k=>by simp
 | n +1,k=>by
   rw[List.replicate_succ,List.flatten_cons,List.getElem?_append,hs]
   split
   · rename_i h
     rw[aEh (by rw[Nat.add_mul,Nat.one_mul];omega),Nat.mod_eq_of_lt h]
   · rename_i h
     rw[lZ hs hp n (k-s),Nat.add_mul,Nat.one_mul]
     have e:(k-s)%s=k%s:=by
      conv=>rhs;rw[show k=(k-s)+s by omega,Nat.add_mod_right]
     by_cases h2:k-s<n*s
     ·rw[aEh h2,aEh om,e]
     ·rw[aEa h2,aEa om]
theorem eG(zs:List Value)(n s:Nat)(hs:zs.length=s)(hp:0<s):(madeCells zs.toArray (n*s)).toList=(List.replicate n zs).flatten:=by
 apply List.ext_getElem?
 intro k
 rw[lZ hs hp]
 unfold madeCells
 by_cases hk:k<n*s
 · have h1:k%s<zs.length:=by rw[hs];exact Nat.mod_lt _ hp
   simp only[List.size_toArray,Array.toList_map,Array.toList_range,aEp,List.getElem?_range hk,Option.map_some,hs,aEh hk]
   rw[gge h1]
   simp[h1]
 ·simp[hk]
section
variable{P:Program}{o:Oper}{ρ:Cb}{Γ:List Ai}{x y:Operand}{t:TypeId}
theorem Zl{α:Type}{enc:α→List Value}{z:α}{e:TypeId}{bytes n size:Nat}{kl kc:IntKind}(hz:(enc z).length=size)(hp:0<size)(ho:o.op= .makeSlice t x y)(ht:Ci P t e size bytes (enc z))(hx:ev ρ x=some (.int kl (n:Int)))(hy:ev ρ y=some (.int kc (n:Int)))(hb:bytes*n≤281474976710656)(hc:n≤maxLen):
    Mk P o ρ Γ (fun v N=>∃b,v= .slice (some ⟨b,0,none⟩) (List.replicate n z).length n∧N=[rows enc e size (some ⟨b,0,none⟩) n (List.replicate n z)]):=by
 have h:=rO (P:=P) (Γ:=Γ) ho ht hx hy hb hc
 intro a w ha hs
 obtain⟨v,N,w',h1,⟨b,h2,h3⟩,h4⟩:=h a w ha hs
 refine⟨v,N,w',h1,⟨b,by rw[h2,aFu],?_⟩,h4⟩
 rw[h3,eG _ n size hz hp]
 unfold rows
 rw[aFu]
 rw[List.flatMap_def,List.map_replicate]
end
theorem eQ{P:Program}{Γ:List Ai}{ρ:Cb}{a:Act}{w:World}{t b n i:Nat}{ty ty':TypeId}{cs:List Value}(hs:sat Γ w)(ha:Xi ρ a)(hv:look ρ t=some (pv b))(hi:Γ[i]?=some (box b cs ty'))(ht:Eb P ty n)(hl:cs.length=n):(loadVar ty ⟨b,0,none⟩).run P w= .ok (.agg cs.toArray) w∧a.tmps[t]?.getD undef=pv b:=by
 obtain⟨d,h1,h2,h3⟩:=ht
 have hw:=hs.each _ (mog hi)
 have:=run_loadVar_mid (P:=P) w b 0 ty cs d (Ip hw) h1 h2 (by rw[hl];exact h3)
 exact⟨this,by rw[ha t _ hv];rfl⟩
theorem JE{P:Program}{C:Cx}{ρ:Cb}{Γ Δ E:List Ai}{R:Value→List Ai→Prop}{fn:Func}{ex:Exit}{t1 b1 n1 i1 t2 b2 n2 i2 t3 b3 n3 i3 t4 b4 n4 i4:Nat}{y1 z1 y2 z2 y3 z3 y4 z4:TypeId}{c1 c2 c3 c4:List Value}(is:List Nat)(hpl:Te Γ is=some (Δ,E))(hex:ex= .ret∨ex= .normal)(hres:fn.results=#[.cell t1 y1, .cell t2 y2, .cell t3 y3, .cell t4 y4])
    (v1:look ρ t1=some (pv b1)) (h1:Γ[i1]?=some (box b1 c1 z1)) (r1:Eb P y1 n1) (l1:c1.length=n1)
    (v2:look ρ t2=some (pv b2)) (h2:Γ[i2]?=some (box b2 c2 z2)) (r2:Eb P y2 n2) (l2:c2.length=n2)
    (v3:look ρ t3=some (pv b3)) (h3:Γ[i3]?=some (box b3 c3 z3)) (r3:Eb P y3 n3) (l3:c3.length=n3)
    (v4:look ρ t4=some (pv b4)) (h4:Γ[i4]?=some (box b4 c4 z4)) (r4:Eb P y4 n4) (l4:c4.length=n4)
    (h:R (.tuple #[.agg c1.toArray, .agg c2.toArray, .agg c3.toArray, .agg c4.toArray]) Δ) (hds:C.ds=[]:=by rfl):To C ρ Γ (bodyPost P fn (Fin C R) ex):=fun a w ha hp=>by
 have hr:(results fn a.tmps).run P w= .ok (.tuple #[.agg c1.toArray, .agg c2.toArray, .agg c3.toArray, .agg c4.toArray]) w:=by
  have e1:=eQ (P:=P) hp.sat ha.sees v1 h1 r1 l1
  have e2:=eQ (P:=P) hp.sat ha.sees v2 h2 r2 l2
  have e3:=eQ (P:=P) hp.sat ha.sees v3 h3 r3 l3
  have e4:=eQ (P:=P) hp.sat ha.sees v4 h4 r4 l4
  simp[results,hres,e1.1,e1.2,e2.1,e2.2,e3.1,e3.2,e4.1,e4.2,asAddr]
 have hq:Dj C.Γ0 Δ C.w0 w:=(hp.perm (Hz hpl)).drop
 rcases hex with rfl|rfl
 ·exact⟨ha.defers.trans hds,_,hr,_,Δ,rfl,h,hq⟩
 ·exact⟨ha.defers.trans hds,_,hr,_,Δ,rfl,h,hq⟩
variable{C:Cx}{ρ:Cb}{K:Act→World→Prop}{Γ:List Ai}{c:Ai}
theorem Le{c0:Ai}(k:To C ρ (c::c0::Γ) K):To C ρ (c0::c::Γ) K:=To.perm (aEl (l₁:=[c0])) k
theorem Jj{c0 c1:Ai}(k:To C ρ (c::c0::c1::Γ) K):To C ρ (c0::c1::c::Γ) K:=To.perm (aEl (l₁:=[c0,c1])) k
theorem Ic{c0 c1 c2:Ai}(k:To C ρ (c::c0::c1::c2::Γ) K):To C ρ (c0::c1::c2::c::Γ) K:=To.perm (aEl (l₁:=[c0,c1,c2])) k
theorem Md{c0 c1 c2 c3:Ai}(k:To C ρ (c::c0::c1::c2::c3::Γ) K):To C ρ (c0::c1::c2::c3::c::Γ) K:=To.perm (aEl (l₁:=[c0,c1,c2,c3])) k
theorem Nz{c0 c1 c2 c3 c4:Ai}(k:To C ρ (c::c0::c1::c2::c3::c4::Γ) K):To C ρ (c0::c1::c2::c3::c4::c::Γ) K:=To.perm (aEl (l₁:=[c0,c1,c2,c3,c4])) k
theorem Ej{c0 c1 c2 c3 c4 c5:Ai}(k:To C ρ (c::c0::c1::c2::c3::c4::c5::Γ) K):To C ρ (c0::c1::c2::c3::c4::c5::c::Γ) K:=To.perm (aEl (l₁:=[c0,c1,c2,c3,c4,c5])) k
theorem Cj{c0 c1 c2 c3 c4 c5 c6:Ai}(k:To C ρ (c::c0::c1::c2::c3::c4::c5::c6::Γ) K):To C ρ (c0::c1::c2::c3::c4::c5::c6::c::Γ) K:=To.perm (aEl (l₁:=[c0,c1,c2,c3,c4,c5,c6])) k
theorem JF{c0 c1 c2 c3 c4 c5 c6 c7:Ai}(k:To C ρ (c::c0::c1::c2::c3::c4::c5::c6::c7::Γ) K):To C ρ (c0::c1::c2::c3::c4::c5::c6::c7::c::Γ) K:=To.perm (aEl (l₁:=[c0,c1,c2,c3,c4,c5,c6,c7])) k
theorem DX{c0 c1 c2 c3 c4 c5 c6 c7 c8:Ai}(k:To C ρ (c::c0::c1::c2::c3::c4::c5::c6::c7::c8::Γ) K):To C ρ (c0::c1::c2::c3::c4::c5::c6::c7::c8::c::Γ) K:=To.perm (aEl (l₁:=[c0,c1,c2,c3,c4,c5,c6,c7,c8])) k
theorem Ux{c0 c1 c2 c3 c4 c5 c6 c7 c8 c9:Ai}(k:To C ρ (c::c0::c1::c2::c3::c4::c5::c6::c7::c8::c9::Γ) K):To C ρ (c0::c1::c2::c3::c4::c5::c6::c7::c8::c9::c::Γ) K:=To.perm (aEl (l₁:=[c0,c1,c2,c3,c4,c5,c6,c7,c8,c9])) k
theorem Pq{c0 c1 c2 c3 c4 c5 c6 c7 c8 c9 c10:Ai}(k:To C ρ (c::c0::c1::c2::c3::c4::c5::c6::c7::c8::c9::c10::Γ) K):To C ρ (c0::c1::c2::c3::c4::c5::c6::c7::c8::c9::c10::c::Γ) K:=To.perm (aEl (l₁:=[c0,c1,c2,c3,c4,c5,c6,c7,c8,c9,c10])) k
theorem Su{c0 c1 c2 c3 c4 c5 c6 c7 c8 c9 c10 c11:Ai}(k:To C ρ (c::c0::c1::c2::c3::c4::c5::c6::c7::c8::c9::c10::c11::Γ) K):To C ρ (c0::c1::c2::c3::c4::c5::c6::c7::c8::c9::c10::c11::c::Γ) K:=To.perm (aEl (l₁:=[c0,c1,c2,c3,c4,c5,c6,c7,c8,c9,c10,c11])) k
theorem zM{c0 c1 c2 c3 c4 c5 c6 c7 c8 c9 c10 c11 c12:Ai}(k:To C ρ (c::c0::c1::c2::c3::c4::c5::c6::c7::c8::c9::c10::c11::c12::Γ) K):To C ρ (c0::c1::c2::c3::c4::c5::c6::c7::c8::c9::c10::c11::c12::c::Γ) K:=To.perm (aEl (l₁:=[c0,c1,c2,c3,c4,c5,c6,c7,c8,c9,c10,c11,c12])) k
theorem rX{c0 c1 c2 c3 c4 c5 c6 c7 c8 c9 c10 c11 c12 c13:Ai}(k:To C ρ (c::c0::c1::c2::c3::c4::c5::c6::c7::c8::c9::c10::c11::c12::c13::Γ) K):To C ρ (c0::c1::c2::c3::c4::c5::c6::c7::c8::c9::c10::c11::c12::c13::c::Γ) K:=To.perm (aEl (l₁:=[c0,c1,c2,c3,c4,c5,c6,c7,c8,c9,c10,c11,c12,c13])) k
theorem mD{c0 c1 c2 c3 c4 c5 c6 c7 c8 c9 c10 c11 c12 c13 c14:Ai}(k:To C ρ (c::c0::c1::c2::c3::c4::c5::c6::c7::c8::c9::c10::c11::c12::c13::c14::Γ) K):To C ρ (c0::c1::c2::c3::c4::c5::c6::c7::c8::c9::c10::c11::c12::c13::c14::c::Γ) K:=To.perm (aEl (l₁:=[c0,c1,c2,c3,c4,c5,c6,c7,c8,c9,c10,c11,c12,c13,c14])) k
theorem JG{c0 c1 c2 c3 c4 c5 c6 c7 c8 c9 c10 c11 c12 c13 c14 c15:Ai}(k:To C ρ (c::c0::c1::c2::c3::c4::c5::c6::c7::c8::c9::c10::c11::c12::c13::c14::c15::Γ) K):To C ρ (c0::c1::c2::c3::c4::c5::c6::c7::c8::c9::c10::c11::c12::c13::c14::c15::c::Γ) K:=To.perm (aEl (l₁:=[c0,c1,c2,c3,c4,c5,c6,c7,c8,c9,c10,c11,c12,c13,c14,c15])) k
theorem Sv{c0 c1 c2 c3 c4 c5 c6 c7 c8 c9 c10 c11 c12 c13 c14 c15 c16:Ai}(k:To C ρ (c::c0::c1::c2::c3::c4::c5::c6::c7::c8::c9::c10::c11::c12::c13::c14::c15::c16::Γ) K):To C ρ (c0::c1::c2::c3::c4::c5::c6::c7::c8::c9::c10::c11::c12::c13::c14::c15::c16::c::Γ) K:=To.perm (aEl (l₁:=[c0,c1,c2,c3,c4,c5,c6,c7,c8,c9,c10,c11,c12,c13,c14,c15,c16])) k
theorem zN{c0 c1 c2 c3 c4 c5 c6 c7 c8 c9 c10 c11 c12 c13 c14 c15 c16 c17:Ai}(k:To C ρ (c::c0::c1::c2::c3::c4::c5::c6::c7::c8::c9::c10::c11::c12::c13::c14::c15::c16::c17::Γ) K):To C ρ (c0::c1::c2::c3::c4::c5::c6::c7::c8::c9::c10::c11::c12::c13::c14::c15::c16::c17::c::Γ) K:=To.perm (aEl (l₁:=[c0,c1,c2,c3,c4,c5,c6,c7,c8,c9,c10,c11,c12,c13,c14,c15,c16,c17])) k
theorem rY{c0 c1 c2 c3 c4 c5 c6 c7 c8 c9 c10 c11 c12 c13 c14 c15 c16 c17 c18:Ai}(k:To C ρ (c::c0::c1::c2::c3::c4::c5::c6::c7::c8::c9::c10::c11::c12::c13::c14::c15::c16::c17::c18::Γ) K):To C ρ (c0::c1::c2::c3::c4::c5::c6::c7::c8::c9::c10::c11::c12::c13::c14::c15::c16::c17::c18::c::Γ) K:=To.perm (aEl (l₁:=[c0,c1,c2,c3,c4,c5,c6,c7,c8,c9,c10,c11,c12,c13,c14,c15,c16,c17,c18])) k
theorem UQ{c0 c1 c2 c3 c4 c5 c6 c7 c8 c9 c10 c11 c12 c13 c14 c15 c16 c17 c18 c19 c20:Ai}(k:To C ρ (c::c0::c1::c2::c3::c4::c5::c6::c7::c8::c9::c10::c11::c12::c13::c14::c15::c16::c17::c18::c19::c20::Γ) K):To C ρ (c0::c1::c2::c3::c4::c5::c6::c7::c8::c9::c10::c11::c12::c13::c14::c15::c16::c17::c18::c19::c20::c::Γ) K:=To.perm (aEl (l₁:=[c0,c1,c2,c3,c4,c5,c6,c7,c8,c9,c10,c11,c12,c13,c14,c15,c16,c17,c18,c19,c20])) k
theorem Du(k:To C ρ (Γ) K):To C ρ (c::Γ) K:=To.perm (aEl (l₁:=[])) (To.perm (aEt (l₁:=[c])) (To.drop k))
theorem Df{c0:Ai}(k:To C ρ (c0::Γ) K):To C ρ (c0::c::Γ) K:=To.perm (aEl (l₁:=[c0])) (To.perm (aEt (l₁:=[c])) (To.drop k))
theorem Cu{c0 c1:Ai}(k:To C ρ (c0::c1::Γ) K):To C ρ (c0::c1::c::Γ) K:=To.perm (aEl (l₁:=[c0,c1])) (To.perm (aEt (l₁:=[c])) (To.drop k))
theorem Dl{c0 c1 c2:Ai}(k:To C ρ (c0::c1::c2::Γ) K):To C ρ (c0::c1::c2::c::Γ) K:=To.perm (aEl (l₁:=[c0,c1,c2])) (To.perm (aEt (l₁:=[c])) (To.drop k))
theorem Er{c0 c1 c2 c3:Ai}(k:To C ρ (c0::c1::c2::c3::Γ) K):To C ρ (c0::c1::c2::c3::c::Γ) K:=To.perm (aEl (l₁:=[c0,c1,c2,c3])) (To.perm (aEt (l₁:=[c])) (To.drop k))
theorem Iu{c0 c1 c2 c3 c4:Ai}(k:To C ρ (c0::c1::c2::c3::c4::Γ) K):To C ρ (c0::c1::c2::c3::c4::c::Γ) K:=To.perm (aEl (l₁:=[c0,c1,c2,c3,c4])) (To.perm (aEt (l₁:=[c])) (To.drop k))
theorem Lj{c0 c1 c2 c3 c4 c5:Ai}(k:To C ρ (c0::c1::c2::c3::c4::c5::Γ) K):To C ρ (c0::c1::c2::c3::c4::c5::c::Γ) K:=To.perm (aEl (l₁:=[c0,c1,c2,c3,c4,c5])) (To.perm (aEt (l₁:=[c])) (To.drop k))
theorem Xp{c0 c1 c2 c3 c4 c5 c6:Ai}(k:To C ρ (c0::c1::c2::c3::c4::c5::c6::Γ) K):To C ρ (c0::c1::c2::c3::c4::c5::c6::c::Γ) K:=To.perm (aEl (l₁:=[c0,c1,c2,c3,c4,c5,c6])) (To.perm (aEt (l₁:=[c])) (To.drop k))
theorem Kt{c0 c1 c2 c3 c4 c5 c6 c7:Ai}(k:To C ρ (c0::c1::c2::c3::c4::c5::c6::c7::Γ) K):To C ρ (c0::c1::c2::c3::c4::c5::c6::c7::c::Γ) K:=To.perm (aEl (l₁:=[c0,c1,c2,c3,c4,c5,c6,c7])) (To.perm (aEt (l₁:=[c])) (To.drop k))
theorem Jk{c0 c1 c2 c3 c4 c5 c6 c7 c8:Ai}(k:To C ρ (c0::c1::c2::c3::c4::c5::c6::c7::c8::Γ) K):To C ρ (c0::c1::c2::c3::c4::c5::c6::c7::c8::c::Γ) K:=To.perm (aEl (l₁:=[c0,c1,c2,c3,c4,c5,c6,c7,c8])) (To.perm (aEt (l₁:=[c])) (To.drop k))
theorem Gu{c0 c1 c2 c3 c4 c5 c6 c7 c8 c9:Ai}(k:To C ρ (c0::c1::c2::c3::c4::c5::c6::c7::c8::c9::Γ) K):To C ρ (c0::c1::c2::c3::c4::c5::c6::c7::c8::c9::c::Γ) K:=To.perm (aEl (l₁:=[c0,c1,c2,c3,c4,c5,c6,c7,c8,c9])) (To.perm (aEt (l₁:=[c])) (To.drop k))
theorem Fy{c0 c1 c2 c3 c4 c5 c6 c7 c8 c9 c10:Ai}(k:To C ρ (c0::c1::c2::c3::c4::c5::c6::c7::c8::c9::c10::Γ) K):To C ρ (c0::c1::c2::c3::c4::c5::c6::c7::c8::c9::c10::c::Γ) K:=To.perm (aEl (l₁:=[c0,c1,c2,c3,c4,c5,c6,c7,c8,c9,c10])) (To.perm (aEt (l₁:=[c])) (To.drop k))
theorem Iw{c0 c1 c2 c3 c4 c5 c6 c7 c8 c9 c10 c11:Ai}(k:To C ρ (c0::c1::c2::c3::c4::c5::c6::c7::c8::c9::c10::c11::Γ) K):To C ρ (c0::c1::c2::c3::c4::c5::c6::c7::c8::c9::c10::c11::c::Γ) K:=To.perm (aEl (l₁:=[c0,c1,c2,c3,c4,c5,c6,c7,c8,c9,c10,c11])) (To.perm (aEt (l₁:=[c])) (To.drop k))
theorem Pz{c0 c1 c2 c3 c4 c5 c6 c7 c8 c9 c10 c11 c12:Ai}(k:To C ρ (c0::c1::c2::c3::c4::c5::c6::c7::c8::c9::c10::c11::c12::Γ) K):To C ρ (c0::c1::c2::c3::c4::c5::c6::c7::c8::c9::c10::c11::c12::c::Γ) K:=To.perm (aEl (l₁:=[c0,c1,c2,c3,c4,c5,c6,c7,c8,c9,c10,c11,c12])) (To.perm (aEt (l₁:=[c])) (To.drop k))
theorem bI{c0 c1 c2 c3 c4 c5 c6 c7 c8 c9 c10 c11 c12 c13:Ai}(k:To C ρ (c0::c1::c2::c3::c4::c5::c6::c7::c8::c9::c10::c11::c12::c13::Γ) K):To C ρ (c0::c1::c2::c3::c4::c5::c6::c7::c8::c9::c10::c11::c12::c13::c::Γ) K:=To.perm (aEl (l₁:=[c0,c1,c2,c3,c4,c5,c6,c7,c8,c9,c10,c11,c12,c13])) (To.perm (aEt (l₁:=[c])) (To.drop k))
theorem iA{c0 c1 c2 c3 c4 c5 c6 c7 c8 c9 c10 c11 c12 c13 c14:Ai}(k:To C ρ (c0::c1::c2::c3::c4::c5::c6::c7::c8::c9::c10::c11::c12::c13::c14::Γ) K):To C ρ (c0::c1::c2::c3::c4::c5::c6::c7::c8::c9::c10::c11::c12::c13::c14::c::Γ) K:=To.perm (aEl (l₁:=[c0,c1,c2,c3,c4,c5,c6,c7,c8,c9,c10,c11,c12,c13,c14])) (To.perm (aEt (l₁:=[c])) (To.drop k))
theorem wI{c0 c1 c2 c3 c4 c5 c6 c7 c8 c9 c10 c11 c12 c13 c14 c15:Ai}(k:To C ρ (c0::c1::c2::c3::c4::c5::c6::c7::c8::c9::c10::c11::c12::c13::c14::c15::Γ) K):To C ρ (c0::c1::c2::c3::c4::c5::c6::c7::c8::c9::c10::c11::c12::c13::c14::c15::c::Γ) K:=To.perm (aEl (l₁:=[c0,c1,c2,c3,c4,c5,c6,c7,c8,c9,c10,c11,c12,c13,c14,c15])) (To.perm (aEt (l₁:=[c])) (To.drop k))
theorem WC{c0 c1 c2 c3 c4 c5 c6 c7 c8 c9 c10 c11 c12 c13 c14 c15 c16:Ai}(k:To C ρ (c0::c1::c2::c3::c4::c5::c6::c7::c8::c9::c10::c11::c12::c13::c14::c15::c16::Γ) K):To C ρ (c0::c1::c2::c3::c4::c5::c6::c7::c8::c9::c10::c11::c12::c13::c14::c15::c16::c::Γ) K:=To.perm (aEl (l₁:=[c0,c1,c2,c3,c4,c5,c6,c7,c8,c9,c10,c11,c12,c13,c14,c15,c16])) (To.perm (aEt (l₁:=[c])) (To.drop k))
theorem WE{c0 c1 c2 c3 c4 c5 c6 c7 c8 c9 c10 c11 c12 c13 c14 c15 c16 c17:Ai}(k:To C ρ (c0::c1::c2::c3::c4::c5::c6::c7::c8::c9::c10::c11::c12::c13::c14::c15::c16::c17::Γ) K):To C ρ (c0::c1::c2::c3::c4::c5::c6::c7::c8::c9::c10::c11::c12::c13::c14::c15::c16::c17::c::Γ) K:=To.perm (aEl (l₁:=[c0,c1,c2,c3,c4,c5,c6,c7,c8,c9,c10,c11,c12,c13,c14,c15,c16,c17])) (To.perm (aEt (l₁:=[c])) (To.drop k))
theorem aJb{c0 c1 c2 c3 c4 c5 c6 c7 c8 c9 c10 c11 c12 c13 c14 c15 c16 c17 c18:Ai}(k:To C ρ (c0::c1::c2::c3::c4::c5::c6::c7::c8::c9::c10::c11::c12::c13::c14::c15::c16::c17::c18::Γ) K):To C ρ (c0::c1::c2::c3::c4::c5::c6::c7::c8::c9::c10::c11::c12::c13::c14::c15::c16::c17::c18::c::Γ) K:=To.perm (aEl (l₁:=[c0,c1,c2,c3,c4,c5,c6,c7,c8,c9,c10,c11,c12,c13,c14,c15,c16,c17,c18])) (To.perm (aEt (l₁:=[c])) (To.drop k))
theorem aJc{c0 c1 c2 c3 c4 c5 c6 c7 c8 c9 c10 c11 c12 c13 c14 c15 c16 c17 c18 c19:Ai}(k:To C ρ (c0::c1::c2::c3::c4::c5::c6::c7::c8::c9::c10::c11::c12::c13::c14::c15::c16::c17::c18::c19::Γ) K):To C ρ (c0::c1::c2::c3::c4::c5::c6::c7::c8::c9::c10::c11::c12::c13::c14::c15::c16::c17::c18::c19::c::Γ) K:=To.perm (aEl (l₁:=[c0,c1,c2,c3,c4,c5,c6,c7,c8,c9,c10,c11,c12,c13,c14,c15,c16,c17,c18,c19])) (To.perm (aEt (l₁:=[c])) (To.drop k))
theorem aJd{c0 c1 c2 c3 c4 c5 c6 c7 c8 c9 c10 c11 c12 c13 c14 c15 c16 c17 c18 c19 c20:Ai}(k:To C ρ (c0::c1::c2::c3::c4::c5::c6::c7::c8::c9::c10::c11::c12::c13::c14::c15::c16::c17::c18::c19::c20::Γ) K):To C ρ (c0::c1::c2::c3::c4::c5::c6::c7::c8::c9::c10::c11::c12::c13::c14::c15::c16::c17::c18::c19::c20::c::Γ) K:=To.perm (aEl (l₁:=[c0,c1,c2,c3,c4,c5,c6,c7,c8,c9,c10,c11,c12,c13,c14,c15,c16,c17,c18,c19,c20])) (To.perm (aEt (l₁:=[c])) (To.drop k))
theorem aId{c0 c1 c2 c3 c4 c5 c6 c7 c8 c9 c10 c11 c12 c13 c14 c15 c16 c17 c18 c19 c20 c21:Ai}(k:To C ρ (c0::c1::c2::c3::c4::c5::c6::c7::c8::c9::c10::c11::c12::c13::c14::c15::c16::c17::c18::c19::c20::c21::Γ) K):To C ρ (c0::c1::c2::c3::c4::c5::c6::c7::c8::c9::c10::c11::c12::c13::c14::c15::c16::c17::c18::c19::c20::c21::c::Γ) K:=To.perm (aEl (l₁:=[c0,c1,c2,c3,c4,c5,c6,c7,c8,c9,c10,c11,c12,c13,c14,c15,c16,c17,c18,c19,c20,c21])) (To.perm (aEt (l₁:=[c])) (To.drop k))
theorem aKw{c0 c1 c2 c3 c4 c5 c6 c7 c8 c9 c10 c11 c12 c13 c14 c15 c16 c17 c18 c19 c20 c21 c22:Ai}(k:To C ρ (c0::c1::c2::c3::c4::c5::c6::c7::c8::c9::c10::c11::c12::c13::c14::c15::c16::c17::c18::c19::c20::c21::c22::Γ) K):To C ρ (c0::c1::c2::c3::c4::c5::c6::c7::c8::c9::c10::c11::c12::c13::c14::c15::c16::c17::c18::c19::c20::c21::c22::c::Γ) K:=To.perm (aEl (l₁:=[c0,c1,c2,c3,c4,c5,c6,c7,c8,c9,c10,c11,c12,c13,c14,c15,c16,c17,c18,c19,c20,c21,c22])) (To.perm (aEt (l₁:=[c])) (To.drop k))
theorem aIe{c0 c1 c2 c3 c4 c5 c6 c7 c8 c9 c10 c11 c12 c13 c14 c15 c16 c17 c18 c19 c20 c21 c22 c23:Ai}(k:To C ρ (c0::c1::c2::c3::c4::c5::c6::c7::c8::c9::c10::c11::c12::c13::c14::c15::c16::c17::c18::c19::c20::c21::c22::c23::Γ) K):To C ρ (c0::c1::c2::c3::c4::c5::c6::c7::c8::c9::c10::c11::c12::c13::c14::c15::c16::c17::c18::c19::c20::c21::c22::c23::c::Γ) K:=To.perm (aEl (l₁:=[c0,c1,c2,c3,c4,c5,c6,c7,c8,c9,c10,c11,c12,c13,c14,c15,c16,c17,c18,c19,c20,c21,c22,c23])) (To.perm (aEt (l₁:=[c])) (To.drop k))
class Bx(Γ:List Ai)(b:Nat)(i:outParam Nat)(cs:outParam (List Value))(t:outParam Nat):Prop where h:Γ[i]?=some (box b cs t)
instance Bx.s{Γ:List Ai}{c:Ai}{b i t:Nat}{cs:List Value} [h:Bx Γ b i cs t]:Bx (c::Γ) b (i+1) cs t:=⟨h.h⟩
instance Bx.o{Γ:List Ai}{b t:Nat}{cs:List Value}:Bx (box b cs t::Γ) b 0 cs t:=⟨rfl⟩
class Ro(Γ:List Ai)(A:OA)(α:outParam Type)(enc:outParam (α→List Value))(l:outParam (List α)):Prop where h:∃i:Nat,Γ[i]?=some (ros enc A l)
instance Ro.s{Γ:List Ai}{c:Ai}{A:OA}{α:Type}{enc:α→List Value}{l:List α} [h:Ro Γ A α enc l]:Ro (c::Γ) A α enc l:=⟨h.h.elim fun i h=>⟨i+1,h⟩⟩
instance Ro.o{Γ:List Ai}{A:OA}{α:Type}{enc:α→List Value}{l:List α}:Ro (ros enc A l::Γ) A α enc l:=⟨0,rfl⟩
class Rr(Γ:List Ai)(A:OA)(α:outParam Type)(enc:outParam (α→List Value))(e size cap:outParam Nat)(l:outParam (List α)):Prop where h:∃i:Nat,Γ[i]?=some (rows enc e size A cap l)
instance Rr.s{Γ:List Ai}{c:Ai}{A:OA}{α:Type}{enc:α→List Value}{e size cap:Nat}{l:List α} [h:Rr Γ A α enc e size cap l]:Rr (c::Γ) A α enc e size cap l:=⟨h.h.elim fun i h=>⟨i+1,h⟩⟩
instance Rr.o{Γ:List Ai}{A:OA}{α:Type}{enc:α→List Value}{e size cap:Nat}{l:List α}:Rr (rows enc e size A cap l::Γ) A α enc e size cap l:=⟨0,rfl⟩
theorem iB:flat []=[]:=rfl
theorem iC{i:Nat}{c:List Ai}{N:Uc}:flat ((i,c)::N)=c++flat N:=rfl
theorem Yc{d:List Nat}:avail [] d=[]:=rfl
theorem Yd{i:Nat}{c:List Ai}{N:Uc}{d:List Nat}:avail ((i,c)::N) d=(bif d.any (Nat.beq i)then c else [])++avail N d:=rfl
theorem nrm{α:Sort _}{a b:α}(h:a=b:=by(try dsimp only[List.set,List.eraseIdx,List.cons_append,List.nil_append,iB,iC,Yc,Yd,List.any,Nat.beq,cond,Bool.or]);(try exact rfl)):a=b:=h
section
variable{P:Program}{o:Oper}{ρ:Cb}{Γ Γ':List Ai}{x y z:Operand}{u v:Value}
theorem JK{ty b off i t:Nat}{cs:List Value}(ho:o.op= .load ty x)(hx:ev ρ x=some (.pointer (some ⟨b,off,none⟩))) [ht:Cn P ty] [hi:Bx Γ b i cs t](hu:cs[off]?=some v:=by rfl):Rd P o ρ Γ v:=Ck ho hx ht hi.h (bg1 hu)
theorem wJ{ty b i t n:Nat}{cs:List Value}(ho:o.op= .load ty x)(hx:ev ρ x=some (pv b)) [ht:Eb P ty n] [hi:Bx Γ b i cs t](hu:cs.length=n:=by rfl):Rd P o ρ Γ (.agg cs.toArray):=Ij ho hx ht hi.h Py hu
section
variable{α:Type}{enc:α→List Value}{size t e bytes cap j ty f:Nat}{zs:List Value}{A:OA}{l:List α}{k:IntKind}{el:α}
theorem wK(ho:o.op= .indexAddr t x y)(hx:ev ρ x=some (.slice A l.length cap))(hy:ev ρ y=some (.int k j)) [ht:Ci P t e size bytes zs] [hr:Ro Γ A α enc l] [hE:Enc enc size](hj:l[j]?=some el:=by assumption):Rd P o ρ Γ (.pointer (some ⟨blk A,ofs A+j*size,none⟩)):=by
 obtain⟨i,hi⟩:=hr.h
 exact Yb hE ho hx hy ht hi hj
theorem wL{ie:Nat}(ho:o.op= .indexAddr t x y)(hx:ev ρ x=some (.slice A l.length cap))(hy:ev ρ y=some (.int k j)) [ht:Ci P t e size bytes zs] [hr:Rr Γ A α enc ie size cap l](hj:l[j]?=some el:=by assumption):Rd P o ρ Γ (.pointer (some ⟨blk A,ofs A+j*size,none⟩)):=by
 obtain⟨i,hi⟩:=hr.h
 exact Ga ho hx hy ht hi hj
theorem wM(ho:o.op= .load ty x)(hx:ev ρ x=some (.pointer (some ⟨blk A,ofs A+j*size,none⟩))) [ht:Eb P ty size] [hr:Ro Γ A α enc l] [hE:Enc enc size](hj:l[j]?=some el:=by assumption):Rd P o ρ Γ (.agg (enc el).toArray):=by
 obtain⟨i,hi⟩:=hr.h
 exact Ij ho hx ht hi (rsg hE hj) (hE.len _)
theorem wN{ie:Nat}(ho:o.op= .load ty x)(hx:ev ρ x=some (.pointer (some ⟨blk A,ofs A+j*size,none⟩))) [ht:Eb P ty size] [hr:Rr Γ A α enc ie size cap l] [hE:Enc enc size](hj:l[j]?=some el:=by assumption):Rd P o ρ Γ (.agg (enc el).toArray):=by
 obtain⟨i,hi⟩:=hr.h
 exact Ij ho hx ht hi (rwg hE hj) (hE.len _)
theorem wO(ho:o.op= .load ty x)(hx:ev ρ x=some (.pointer (some ⟨blk A,ofs A+j*size+f,none⟩))) [ht:Cn P ty] [hr:Ro Γ A α enc l] [hE:Enc enc size](hj:l[j]?=some el:=by assumption)(hu:(enc el)[f]?=some v:=by rfl):Rd P o ρ Γ v:=by
 obtain⟨i,hi⟩:=hr.h
 exact Ck ho hx ht hi (gvt (rsg hE hj) hu)
theorem wP{ie:Nat}(ho:o.op= .load ty x)(hx:ev ρ x=some (.pointer (some ⟨blk A,ofs A+j*size+f,none⟩))) [ht:Cn P ty] [hr:Rr Γ A α enc ie size cap l] [hE:Enc enc size](hj:l[j]?=some el:=by assumption)(hu:(enc el)[f]?=some v:=by rfl):Rd P o ρ Γ v:=by
 obtain⟨i,hi⟩:=hr.h
 exact Ck ho hx ht hi (gvt (rwg hE hj) hu)
theorem wQ(ho:o.op= .load ty x)(hx:ev ρ x=some (.pointer (some ⟨blk A,ofs A+j*size,none⟩))) [ht:Cn P ty] [hr:Ro Γ A α enc l] [hE:Enc enc size](hj:l[j]?=some el:=by assumption)(hu:enc el=[v]:=by rfl):Rd P o ρ Γ v:=by
 obtain⟨i,hi⟩:=hr.h
 exact Ck ho hx ht hi (Dc (rsg hE hj) hu)
theorem wR{ie:Nat}(ho:o.op= .load ty x)(hx:ev ρ x=some (.pointer (some ⟨blk A,ofs A+j*size,none⟩))) [ht:Cn P ty] [hr:Rr Γ A α enc ie size cap l] [hE:Enc enc size](hj:l[j]?=some el:=by assumption)(hu:enc el=[v]:=by rfl):Rd P o ρ Γ v:=by
 obtain⟨i,hi⟩:=hr.h
 exact Ck ho hx ht hi (Dc (rwg hE hj) hu)
end
theorem Rd.ft{s f k b off:Nat}{ks:List Nat}(ho:o.op= .fieldAddr s x f)(hx:ev ρ x=some (.pointer (some ⟨b,off,none⟩))) [hf:Il P s ks](hk:ks[f]?=some k:=by rfl):Rd P o ρ Γ (.pointer (some ⟨b,off+k,none⟩)):=Rd.field ho hx (hf.ft hk)
theorem Rd.ln{A:OA}{n c t e s b:Nat}{zs:List Value}(ho:o.op= .call {callee:= .builtin .len,args:=#[x],argTypes:=#[t]})(hx:ev ρ x=some (.slice A n c)) [ht:Ci P t e s b zs]:Rd P o ρ Γ (.int .i64 n):=Rd.len ho hx ht.und
theorem rda(h:Rd P o ρ Γ v:=by first|exact Rd.move rfl rfl|exact Rd.ft rfl rfl|exact Rd.nilCheck rfl rfl|exact Rd.assign rfl rfl|exact Rd.ln rfl rfl|exact Rd.eql rfl rfl rfl|exact Rd.neq rfl rfl rfl|exact Rd.lss rfl rfl rfl|exact Rd.leq rfl rfl rfl|exact Rd.gtr rfl rfl rfl|exact Rd.geq rfl rfl rfl|exact gN rfl rfl rfl|exact rH rfl rfl rfl|exact Mf rfl rfl rfl om|exact Rd.extract rfl rfl rfl|exact Rd.not rfl rfl):Rd P o ρ Γ v:=h
end
structure Zs(n:Nat)(G:Prop):Prop where
 go:G
section
variable{H:Prop}{n:Nat}{P:Program}{C:Cx}{ρ:Cb}{Γ Γ':List Ai}{K:Act→World→Prop}{Q Q':Exit→Act→World→Prop}{ops:Array Oper}{rest:List Oper}{o:Oper}{v:Value}{d:Nat}{X Y:Code}{id:Nat}
structure Kp(G:Prop):Prop where
 go:G
theorem ZL{G:Prop}(k:Kp G):Zs 0 G:=⟨k.go⟩
theorem Zs.nm(h:Γ=Γ')(k:Zs n (To C ρ Γ' K)):Zs n (To C ρ Γ K):=by rw[h];exact k
theorem Zs.k(k:Zs n (To C ((d,undef)::ρ) Γ (wpList P ops Q rest)))(hg:grd ops ρ o=some false:=by rfl)(hd:o.dst=some d:=by rfl)(hn:Nat.blt d C.n=true:=by rfl):Zs (n+1) (To C ρ Γ (wpList P ops Q (o::rest))):=⟨Jsk hg hd hn k.go⟩
theorem Zs.r(h:Rd P o ρ Γ v)(k:Zs n (To C ((d,v)::ρ) Γ (wpList P ops Q rest)))(hg:grd ops ρ o=some true:=by rfl)(hd:o.dst=some d:=by rfl)(hn:Nat.blt d C.n=true:=by rfl):Zs (n+1) (To C ρ Γ (wpList P ops Q (o::rest))):=⟨To.rd hg hd hn h k.go⟩
theorem ZM(k:Zs n (To C ρ Γ (Q .normal))):Zs (n+1) (To C ρ Γ (wpList P ops Q [])):=⟨k.go⟩
theorem Zs.t(k:Zs n (To C ρ Γ K)):Zs (n+1) (To C ρ Γ (Exit.then K Q' .normal)):=⟨k.go⟩
theorem Zs.tx(k:Zs n (To C ρ Γ (Q (.exit id)))):Zs (n+1) (To C ρ Γ (Exit.then K Q (.exit id))):=⟨k.go⟩
theorem Zs.tr(k:Zs n (To C ρ Γ (Q .ret))):Zs (n+1) (To C ρ Γ (Exit.then K Q .ret)):=⟨k.go⟩
theorem ZN(k:Zs n (To C ρ Γ (Q .normal))):Zs (n+1) (To C ρ Γ (Exit.inBlock id Q .normal)):=⟨k.go⟩
theorem ZO(k:Zs n (To C ρ Γ (Q .ret))):Zs (n+1) (To C ρ Γ (Exit.inBlock id Q .ret)):=⟨k.go⟩
theorem ZP(k:Zs n (To C ρ Γ (Q .normal))):Zs (n+1) (To C ρ Γ (Exit.inBlock id Q (.exit id))):=⟨ZF k.go⟩
theorem ZQ{i:Nat}(k:Zs n (To C ρ Γ (Q (.exit i))))(hne:Nat.beq i id=false:=by rfl):Zs (n+1) (To C ρ Γ (Exit.inBlock id Q (.exit i))):=⟨DK hne k.go⟩
theorem Zs.q(k:Zs n (To C ρ Γ (X.wp P (Exit.then (Y.wp P Q) Q)))):Zs (n+1) (To C ρ Γ ((Code.seq X Y).wp P Q)):=⟨Js k.go⟩
theorem Zs.g{l:List Oper}(k:Zs n (To C ρ Γ (wpList P l.toArray Q l))):Zs (n+1) (To C ρ Γ ((Code.region id l.toArray false).wp P Q)):=⟨To.g k.go⟩
theorem Zs.b(k:Zs n (To C ρ Γ (X.wp P (Exit.inBlock id Q)))):Zs (n+1) (To C ρ Γ ((Code.block id X).wp P Q)):=⟨To.b k.go⟩
theorem ZR(k:Zs n (To C ρ Γ (Q .normal))):Zs (n+1) (To C ρ Γ (Code.skip.wp P Q)):=⟨Jsp k.go⟩
theorem ZT(k:Zs n (To C ρ Γ (Q (.exit id)))):Zs (n+1) (To C ρ Γ ((Code.exit id).wp P Q)):=⟨ZE k.go⟩
theorem ZU(k:Zs n (To C ρ Γ (Q .ret))):Zs (n+1) (To C ρ Γ (Code.ret.wp P Q)):=⟨aIi k.go⟩
theorem ZV{c:Operand}(k:Zs n (To C ρ Γ (X.wp P Q)))(hc:ev ρ c=some (.bool true):=by rfl):Zs (n+1) (To C ρ Γ ((Code.cond c X Y).wp P Q)):=⟨Gm hc k.go⟩
theorem ZW{c:Operand}(k:Zs n (To C ρ Γ (Y.wp P Q)))(hc:ev ρ c=some (.bool false):=by rfl):Zs (n+1) (To C ρ Γ ((Code.cond c X Y).wp P Q)):=⟨vZ hc k.go⟩
theorem Zs.u{x y:Operand}{ty b i t m:Nat}{us cs:List Value}(ho:o.op= .store ty x y)(hx:ev ρ x=some (pv b))(hy:ev ρ y=some (.agg us.toArray)) [ht:Eb P ty m] [hi:Bx Γ b i cs t](k:Zs n (To C ρ (Γ.set i (box b us t)) (wpList P ops Q rest)))(hg:grd ops ρ o=some true:=by rfl)(hd:o.dst=none:=by rfl)(hl:us.length=m:=by rfl)(hv:us.all (·.oneCell')=true:=by rfl)(hc:us.length=cs.length:=by rfl):Zs (n+1) (To C ρ Γ (wpList P ops Q (o::rest))):=⟨Jup hg hd (Bl ho hx hy ht hl hv hi.h (bta hc)) k.go⟩
theorem ZX{x y:Operand}{ty b off i t:Nat}{cs:List Value}(ho:o.op= .store ty x y)(hx:ev ρ x=some (.pointer (some ⟨b,off,none⟩)))(hy:ev ρ y=some v) [ht:Cn P ty] [hi:Bx Γ b i cs t](k:Zs n (To C ρ (Γ.set i (box b (cs.set off v) t)) (wpList P ops Q rest)))(hg:grd ops ρ o=some true:=by rfl)(hd:o.dst=none:=by rfl)(hv:v.oneCell'=true:=by rfl)(hc:Nat.blt off cs.length=true:=by rfl):Zs (n+1) (To C ρ Γ (wpList P ops Q (o::rest))):=⟨Jup hg hd (Up.store ho hx hy ht hv hi.h (bt1 hc)) k.go⟩
section
variable{T:Tel}{l:List Oper}{Θ:List Ai}{R:Act→World→Prop}{ms:List Fe}{N:Uc}{i kd:Nat}{deps:List Nat}
theorem Vm(ho:l[i]?=some o)(h:Rd P o ρ Θ v)(k:Zs n (Dw P T l Θ R ms C ((d,v)::ρ) Γ N))(hg:grd l.toArray ρ o=some true:=by rfl)(hd:o.dst=some d:=by rfl)(hn:Nat.blt d C.n=true:=by rfl):Zs (n+1) (Dw P T l Θ R (⟨i,deps,0⟩::ms) C ρ Γ N):=⟨Sk ho hg hd hn h k.go⟩
structure FlR(Δ:List Ai)(P:Program)(T:Tel)(l:List Oper)(Θ:List Ai)(R:Act→World→Prop)(ms:List Fe)(C:Cx)(ρ:Cb)(Γ:List Ai)(N:Uc)(o:Oper):Prop where
 go:∃v d,Rd P o ρ Δ v∧grd l.toArray ρ o=some true∧o.dst=some d∧Nat.blt d C.n=true∧Dw P T l Θ R ms C ((d,v)::ρ) Γ N
theorem ZY{Δ:List Ai}(ho:l[i]?=some o)(hn:avail N deps++Γ=Δ)(k:Zs (n+1) (FlR Δ P T l Θ R ms C ρ Γ N o)):Zs (n+1) (Dw P T l Θ R (⟨i,deps,1⟩::ms) C ρ Γ N):=by
 obtain⟨v,d,h,hg,hd,hn',k2⟩:=k.go.go
 subst hn
 exact⟨Fw.rd ho hg hd hn' h k2⟩
theorem Vn{Δ:List Ai}(h:Rd P o ρ Δ v)(k:Zs n (Dw P T l Θ R ms C ((d,v)::ρ) Γ N))(hg:grd l.toArray ρ o=some true:=by rfl)(hd:o.dst=some d:=by rfl)(hn:Nat.blt d C.n=true:=by rfl):Zs (n+1) (FlR Δ P T l Θ R ms C ρ Γ N o):=⟨⟨v,d,h,hg,hd,hn,k.go⟩⟩
theorem Zs.fs(ho:l[i]?=some o)(k:Zs n (Dw P T l Θ R ms C ((d,undef)::ρ) Γ N))(hg:grd l.toArray ρ o=some false:=by rfl)(hd:o.dst=some d:=by rfl)(hn:Nat.blt d C.n=true:=by rfl)(hk:kd=0∨kd=1∨kd=3:=by decide)(hT:T i=none:=by rfl):Zs (n+1) (Dw P T l Θ R (⟨i,deps,kd⟩::ms) C ρ Γ N):=⟨Fw.skip hk ho hg hd hn k.go hT⟩
theorem ZZ(k:Zs n (To C ρ (flat N++Γ) R)):Zs (n+1) (Dw P T l Θ R [] C ρ Γ N):=⟨Fw.fin k.go⟩
end
theorem Jal{ty:Nat}{zs:List Value} [hz:Di P ty zs](k:∀b,To C ((d,pv b)::ρ) (box b zs ty::Γ) (wpList P ops Q rest))(hg:grd ops ρ o=some true:=by rfl)(hd:o.dst=some d:=by rfl)(hn:Nat.blt d C.n=true:=by rfl)(ho:o.op= .alloc ty:=by rfl):To C ρ Γ (wpList P ops Q (o::rest)):=To.alloc hg hd hn ho hz k
theorem Jbo{ty:Nat}{x:Operand}{u:Value}{us:List Value}(k:∀b,To C ((d,pv b)::ρ) (box b us ty::Γ) (wpList P ops Q rest))(hg:grd ops ρ o=some true:=by rfl)(hd:o.dst=some d:=by rfl)(hn:Nat.blt d C.n=true:=by rfl)(ho:o.op= .box ty x:=by rfl)(hx:ev ρ x=some u:=by rfl)(hu:u.cells=us.toArray:=by rfl):To C ρ Γ (wpList P ops Q (o::rest)):=oF hg hd hn ho hx hu k
theorem Jz{G:Prop}(n:Nat)(k:H)(h:Kp H→Zs n G:=by intro k;repeat first|exact ZL k|(with_reducible first|refine ZM ?_|refine Zs.t ?_|refine Zs.q ?_|refine Zs.g ?_|refine Zs.b ?_|refine ZR ?_|refine ZT ?_|refine ZU ?_|refine Zs.tx ?_|refine Zs.tr ?_|refine ZN ?_|refine ZO ?_|refine ZP ?_)|refine Zs.r rda ?_|refine Zs.k ?_|refine ZQ ?_|refine ZV ?_|refine ZW ?_|refine Vm rfl rda ?_|refine Zs.fs rfl ?_|refine ZZ ?_|refine Vm rfl (JK rfl rfl) ?_|refine Vm rfl (wJ rfl rfl) ?_|refine Vm rfl (wK rfl rfl rfl) ?_|refine Vm rfl (wM rfl rfl) ?_|refine Vm rfl (wO rfl rfl) ?_|refine Vm rfl (wQ rfl rfl) ?_|refine Vm rfl (wL rfl rfl rfl) ?_|refine Vm rfl (wN rfl rfl) ?_|refine Vm rfl (wP rfl rfl) ?_|refine Vm rfl (wR rfl rfl) ?_|(refine ZY rfl nrm ?_;first|refine Vn rda ?_|refine Vn (JK rfl rfl) ?_|refine Vn (wJ rfl rfl) ?_|refine Vn (wK rfl rfl rfl) ?_|refine Vn (wM rfl rfl) ?_|refine Vn (wO rfl rfl) ?_|refine Vn (wQ rfl rfl) ?_|refine Vn (wL rfl rfl rfl) ?_|refine Vn (wN rfl rfl) ?_|refine Vn (wP rfl rfl) ?_|refine Vn (wR rfl rfl) ?_)|(refine Zs.nm nrm ?_;first|refine Zs.r (JK rfl rfl) ?_|refine Zs.r (wJ rfl rfl) ?_|refine Zs.r (wK rfl rfl rfl) ?_|refine Zs.r (wM rfl rfl) ?_|refine Zs.r (wO rfl rfl) ?_|refine Zs.r (wQ rfl rfl) ?_|refine Zs.r (wL rfl rfl rfl) ?_|refine Zs.r (wN rfl rfl) ?_|refine Zs.r (wP rfl rfl) ?_|refine Zs.r (wR rfl rfl) ?_|refine Zs.u rfl rfl rfl ?_|refine ZX rfl rfl rfl ?_)):G:=(h ⟨k⟩).go
end
section
variable{P:Program}{o:Oper}{ρ:Cb}{Γ:List Ai}{x y:Operand}{t t':TypeId}{a b j:Nat}
theorem WG{n:Nat}(h:n<256):IntKind.u8.wrap (n:Int)=(n:Int):=IntWalk.u8_in _ om
theorem eT{k k':IntKind}(ho:o.op= .binOp .shr t x y t')(hx:ev ρ x=some (.int k (a:Int)))(hy:ev ρ y=some (.int k' (j:Int)))(hj:j≤k.bits):Rd P o ρ Γ (.int k ((a/2^j:Nat):Int)):=Rd.bin ho hx hy fun w=>by
 have h1:¬((j:Int)<0):=om
 have h2:Min.min j k.bits=j:=Nat.min_eq_left hj
 have e:(a:Int).fdiv (2^j)=((a/2^j:Nat):Int):=by
  rw[Int.fdiv_eq_ediv_of_nonneg _ (by exact_mod_cast aEw _)];simp
 simp only[eqGuard,binOp,Op.shift,h1,if_false,Int.toNat_natCast,h2,e]
 simp
theorem Zm{n:Nat}(h:n<256):(BitVec.ofInt IntKind.u8.bits (n:Int)).toNat=n:=by
 show(BitVec.ofInt 8 (n:Int)).toNat=n
 rw[BitVec.toNat_ofInt]
 omega
theorem QB(ho:o.op= .binOp .and t x y t')(hx:ev ρ x=some (.int .u8 (a:Int)))(hy:ev ρ y=some (.int .u8 (b:Int)))(ha:a<256)(hb:b<256):Rd P o ρ Γ (.int .u8 ((a&&& b:Nat):Int)):=Rd.bin ho hx hy fun w=>by
 have h:a&&& b<256:=Nat.lt_of_le_of_lt Nat.and_le_left ha
 simp only[eqGuard,binOp,Op.intBits,BitVec.toNat_and,Zm ha,Zm hb,WG h]
 simp
theorem Rd.cap{e:TypeId}{A:OA}{n c:Nat}(ho:o.op= .call {callee:= .builtin .cap,args:=#[x],argTypes:=#[t]})(ht:P.underlying t=some (.slice e))(hx:ev ρ x=some (.slice A n c)):Rd P o ρ Γ (.int .i64 (c:Int)):=fun a w ha _=>by
 unfold execOp;simp[ho,resolve,invoke,builtin,ha.eval hx,Builtin.cap_,run_underlying ht,goInt]
theorem iD{α:Type}{enc:α→List Value}{size:Nat}{t tn e:TypeId}{bytes n:Nat}{zs:List Value}{k kn:IntKind}(ho:o.op= .call {callee:= .builtin .append,args:=#[x,y],argTypes:=#[t,tn]})(ht:Ci P t e size bytes zs)(htn:P.underlying tn=some (.int kn))
    (hx:ev ρ x=some (.slice none 0 0)) (hy:ev ρ y=some (.int k (n:Int))) (h0:0<n) (h63:n≤9223372036854775807) (h48:n*bytes≤281474976710656):
    Mk P o ρ Γ (fun v N=>∃A cap,(v= .slice A n cap∧n≤cap)∧N=[rows enc e size A cap ([]:List α)]):=fun a w ha _=>by
 obtain⟨it,zv,h2,h3,h4,h5,h6⟩:=ht.inf
 have hr:=Go.Lib.run_append_nil_zeros (P:=P) w t tn o.type e it zv k kn ht.und htn h2 h3 n h0 (by rw[h4];exact ht.pos) om (by rw[h5];exact h48)
 have hzs:zv.cells.size=it.size:=by
  rw[h6,List.size_toArray,ht.len,h4]
 have hge:=grownCap_ge w n 0 e
 have hle:=grownCap_le_maxLen w n 0 e (by simp only[maxLen];omega)
 have hown:=World.ownsRow_made (base:=0) (e:=e) (size:=size) w.drew (Builtin.zeroCells zv.cells n++Builtin.zeroCells zv.cells (grownCap w n 0 e-n)) (grownCap w n 0 e) (aEw _) hle (by
  simp only[Array.size_append,size_zeroCells,hzs,h4,←Nat.add_mul]
  congr 1
  omega)
 refine⟨_,_,_,?_,⟨some ⟨w.heap.size,0,none⟩,grownCap w n 0 e,⟨rfl,hge⟩,rfl⟩,⟨⟨fun c hc=>by rw[aEr.1 hc];exact hown,by simp[owns,rows,row,Ny],by simp[reads,rows,row]⟩,(Rp (row:=none) (show w.grownBy (w.drew.alloc _) none from⟨rfl,rfl,rfl,(World.grownBy_alloc w.drew _ none).size,(World.grownBy_alloc w.drew _ none).block⟩) (run_drawn _ _ _ _ hr)).mono fun _ _ h=>by simp at h,fun g hg hl=>?_,by simp[reads,rows,row]⟩⟩
 · unfold execOp
   simp only[ho,resolve,invoke,builtin,Sem.run_bind,Sem.run_pure,Result.andThen_ok,List.map_toArray,aFn,List.map_nil,ha.eval hx,ha.eval hy,hr]
 ·simp[owns,rows,row,Ny]at hg;omega
theorem rZ{α:Type}{enc:α→List Value}{size:Nat}(E:Enc enc size){A:OA}{cap lo:Nat}{l:List α}{w:World}(hl:l.length≤cap)(hlo:lo≤l.length)(h:Src w A (l.flatMap enc)):Src w (Hr A cap lo size) ((l.drop lo).flatMap enc):=by
 have e1:(l.drop lo).flatMap enc=(l.flatMap enc).drop (lo*size):=by
  have hlen:((l.take lo).flatMap enc).length=lo*size:=by rw[E.flat_len,aEe,Nat.min_eq_left hlo]
  conv=>rhs;rw[←aFs lo l,aFe,←hlen,List.drop_left']
 by_cases hc:cap=lo
 · left
   rw[aFh om];rfl
 · rw[Hr,aEa hc]
   rcases h with h|⟨g,off,rfl,hr⟩
   ·left;rw[e1,h];simp
   · refine .inr ⟨g,off+lo*size,by simp only[Option.map_some,Addr.add_mid],fun j v hv=>?_⟩
     rw[e1,List.getElem?_drop]at hv
     have:=hr (lo*size+j) v hv
     rw[show off+lo*size+j=off+(lo*size+j) by omega]
     exact this
theorem JL{α:Type}{enc:α→List Value}{size:Nat}(E:Enc enc size){A:OA}{cap lo:Nat}{l:List α}(i:Nat)(h:Γ[i]?=some (ros enc A l))(hl:l.length≤cap)(hlo:lo≤l.length):∀w,oks Γ w→(ros enc (Hr A cap lo size) (l.drop lo)).holds w:=fun _ hw=>rZ E hl hlo (hw _ (mog h))
theorem dF{α:Type}{enc:α→List Value}{size:Nat}{e:TypeId}(E:Enc enc size){A:OA}{cap lo:Nat}{l:List α}(i:Nat)(h:Γ[i]?=some (rows enc e size A cap l))(hl:l.length≤cap)(hlo:lo≤l.length):∀w,oks Γ w→(ros enc (Hr A cap lo size) (l.drop lo)).holds w:=fun w hw=>rZ E hl hlo (Ht i h w hw)
theorem bJ{C:Cx}{K:Act→World→Prop}{α:Type}{enc:α→List Value}{size:Nat}(E:Enc enc size){A:OA}{l:List α}(cap lo i:Nat)(hi:Γ[i]?=some (ros enc A l))(hl:l.length≤cap)(hlo:lo≤l.length)(h:To C ρ (ros enc (Hr A cap lo size) (l.drop lo)::Γ) K):To C ρ Γ K:=by
 refine Sl (ros enc (Hr A cap lo size) (l.drop lo)) rfl (fun g hg=>Tn i hi ?_) (fun w hw=>JL E i hi hl hlo w hw) h
 have h1:g∈Lu (Hr A cap lo size) ((l.drop lo).flatMap enc):=hg
 show g∈Lu A (l.flatMap enc)
 have e2:l.flatMap enc=(l.take lo).flatMap enc++(l.drop lo).flatMap enc:=by rw[←aFe,aFs]
 cases h2:(l.drop lo).flatMap enc with
 |nil=>rw[h2]at h1;simp[Lu]at h1
 | cons u us=>
   rw[h2]at h1
   have h3:g∈Ny A:=by
    have h4:g∈Ny (Hr A cap lo size):=h1
    rw[Hr]at h4
    split at h4
    ·exact h4
    · cases A with
      |none=>simp[Ny]at h4
      | some a=>
        obtain⟨b,o,sp⟩:=a
        obtain⟨ad,h5,h6⟩:=Rq.1 h4
        simp only[Option.map_some,Option.some.injEq]at h5
        refine Rq.2 ⟨_,rfl,?_⟩
        rw[←h6,←h5]
        cases sp with
        |none=>rw[Addr.add_mid]
        |some p=>unfold Addr.add;split<;>rfl
   rw[e2,h2]
   cases h7:(l.take lo).flatMap enc with
   |nil=>exact h3
   |cons v vs=>exact h3
end
def Ox(o:Oper):Bool:=match o.op with
 | .move _| .assign _| .alloc _| .box _ _| .build _ _| .buildSlice _ _ _| .load _ _| .store _ _ _| .fieldAddr _ _ _| .binOp _ _ _ _ _| .indexAddr _ _ _| .slice _ _ _ _ _| .convert _ _ _| .nilCheck _=>true
 |_=>false
def UR(m p:Nat)(o:Oper):Bool:=o.after.toList.any fun e=>Region.binds .any e&&(Nat.beq e.on m||Nat.beq e.on p)
def eU(m p:Nat):Nat→List Oper→Bool
 |_,[]=>true
 |i,o::l=>(Ox o||Nat.beq i m||Nat.beq i p||UR m p o)&&eU m p (i+1) l
def JM(l:List Oper)(m p:Nat):Bool:=eU m p 0 l
theorem iE{m p:Nat}:∀{l:List Oper} {k i:Nat} {o:Oper},eU m p k l=true→l[i]?=some o→Ox o=true∨k+i=m∨k+i=p∨∃e∈o.after,Region.binds .any e=true∧(e.on=m∨e.on=p)
 |[],_,_,_,_,h=>by simp at h
 | o ::l,k,i,o',h,hi=>by
   rw[eU,aFd]at h
   cases i with
   | zero=>
     obtain rfl:o=o':=by simpa using hi
     have h1:=h.1
     simp only[aFr]at h1
     rcases h1 with((h1|h1)|h1)|h1
     ·exact .inl h1
     ·exact .inr (.inl (aFz h1))
     ·exact .inr (.inr (.inl (aFz h1)))
     · obtain⟨e,he,h2⟩:=List.any_eq_true.1 h1
       simp only[aFd,aFr]at h2
       exact .inr (.inr (.inr ⟨e,Array.mem_toList_iff.1 he,h2.1,h2.2.imp aFz aFz⟩))
   | succ i=>
     have:=iE h.2 (i:=i) (o:=o') (by simpa using hi)
     rwa[show k+1+i=k+(i+1) by omega]at this
theorem DY{m p:Nat}{l:List Oper}{i:Nat}{o:Oper}(h:JM l m p=true)(hi:l[i]?=some o):Ox o=true∨i=m∨i=p∨∃e∈o.after,Region.binds .any e=true∧(e.on=m∨e.on=p):=by
 have:=iE h hi
 rwa[aFl]at this
theorem Zn{o:Oper}(hp:Ox o=true)(ρ:Operand→Value)(P:Program)(w w':World):(∀f args,(execOp ρ o).run P w≠ .ok (.enter f args) w')∧(∀row args,(execOp ρ o).run P w≠ .ok (.row row args) w'):=by
 have hv:∀s:Sem Value,(∀f args,(do pure (.value (←s)):Sem Next).run P w≠ .ok (.enter f args) w')∧(∀row args,(do pure (.value (←s)):Sem Next).run P w≠ .ok (.row row args) w'):=fun s=>by
  simp only[Sem.run_bind]
  cases s.run P w<;>simp[Result.andThen]
 have hu:∀s:Sem Unit,(∀f args,(do s;pure .skip:Sem Next).run P w≠ .ok (.enter f args) w')∧(∀row args,(do s;pure .skip:Sem Next).run P w≠ .ok (.row row args) w'):=fun s=>by
  simp only[Sem.run_bind]
  cases s.run P w<;>simp[Result.andThen]
 unfold Ox at hp
 unfold execOp
 split at hp<;>rename_i he<;>first|exact absurd hp (by decide)|(simp only[he];first|exact hv _|exact hu _|(simp;done)|skip)
 all_goals
  constructor<;>intro f args<;>split<;>first|(simp[runtimePanic,goPanic];done)|(split<;>first|(simp[runtimePanic,goPanic];done)|skip)|skip
 all_goals
  have key:∀s:Program→Sem (Option Bool),∀u:Value,(∀f args,(do let p←program;let __do_lift←s p;if(__do_lift !=some false)=true then do(unsupported (Unsupported.noEntry "op/nilCheck.the method's receiver behind this interface value is a nil pointer, or cannot be seen to be none, and the arguments act or may panic (ledger 612)"):Sem Unit);pure (Next.value u)else pure (Next.value u):Sem Next).run P w≠ .ok (.enter f args) w')∧(∀f args,(do let p←program;let __do_lift←s p;if(__do_lift !=some false)=true then do(unsupported (Unsupported.noEntry "op/nilCheck.the method's receiver behind this interface value is a nil pointer, or cannot be seen to be none, and the arguments act or may panic (ledger 612)"):Sem Unit);pure (Next.value u)else pure (Next.value u):Sem Next).run P w≠ .ok (.row f args) w'):=fun s u=>by
   simp only[Sem.run_bind]
   cases Sem.run P program w with
   |halt a b=>simp[Result.andThen]
   | ok p w0=>
     simp only[Result.andThen_ok]
     cases(s p).run P w0 with
     |ok a w1=>simp only[Result.andThen];split<;>simp[unsupported]
     |halt a b=>simp[Result.andThen]
  first|exact(key (fun p=>nilAhead (p.types.size+Made.depth) _ _ _) _).1 f args|exact(key (fun p=>nilAhead (p.types.size+Made.depth) _ _ _) _).2 f args
theorem DZ{P:Program}{ops:Array Oper}{o:Oper}{a:Act}{w:World}{K K':Value→World→Prop}(hp:Ox o=true)(h:He P ops o a w K)(h':He P ops o a w K'):He P ops o a w fun v w'=>K v w'∧K' v w':=by
 unfold He at*
 split
 · rename_i hw
   rw[aEh hw]at h h'
   have hq:=Zn hp a.eval P w
   unfold nW at*
   split
   ·rename_i he;rw[he]at h h';exact⟨h,h'⟩
   ·rename_i he;rw[he]at h h';exact⟨h,h'⟩
   ·rename_i w' he;exact absurd he ((hq w').1 _ _)
   ·rename_i w' he;exact absurd he ((hq w').2 _ _)
   · rename_i h1 h2 h3 h4
     generalize (execOp a.eval o).run P w=r at*
     cases r with
     |ok n w'=>cases n<;>first|exact absurd rfl (h1 _ _)|exact absurd rfl (h2 _)|exact absurd rfl (h3 _ _ _)|exact absurd rfl (h4 _ _ _)|exact h
     |halt x w'=>exact h
 · rename_i hw
   rw[aEa hw]at h h'
   exact⟨h,h'⟩
section
variable{P:Program}{l:List Oper}{Q:Act→World→Prop}
theorem iF{m p:Nat}(hne:m≠p)(hpl:∀i o,l[i]?=some o→Ox o=true∨i=m∨i=p∨∃e∈o.after,Region.binds .any e=true∧(e.on=m∨e.on=p)):∀(fuel:Nat) (listed:Array Bool) (a:Act) (w:World),Rm P (tie l m p).toArray Q fuel listed a w→Rm P (tie l p m).toArray Q fuel listed a w→listed.getD p false=false→listed.getD m false=false→Rm P l.toArray Q fuel listed a w
 | 0,listed,a,w,h1,h2,hp,hm=>by
   refine⟨aFv.2 fun i hi=>?_,h1.2⟩
   by_cases e:i=m
   · have:=Gd (m:=p) (p:=m).2 ⟨hi,fun e2=>absurd (e.symm.trans e2) hne⟩
     rw[h2.1]at this;cases this
   · have:=Gd (m:=m) (p:=p).2 ⟨hi,fun e2=>absurd e2 e⟩
     rw[h1.1]at this;cases this
 | fuel + 1,listed,a,w,h1,h2,hp,hm=>by
   refine⟨fun hr=>h1.1 (aFv.2 fun i hi=>?_),fun i hi=>?_⟩
   · have h1:=(Gd.1 hi).1
     rw[hr]at h1;cases h1
   · have hl:=(Rh.1 hi).1
     by_cases em:i=m
     · obtain⟨o,h3,h4⟩:=Zg (h2.2 i (Gd.2 ⟨hi,fun e2=>absurd (em.symm.trans e2) hne⟩))
       exact⟨o,by simpa using h3,h4.mono fun v w' hv=>gZ fuel _ _ _ (by rw[em]at hl⊢;exact Ue hl) hv⟩
     · by_cases ep:i=p
       · obtain⟨o,h3,h4⟩:=Zg (h1.2 i (Gd.2 ⟨hi,fun e2=>absurd e2 em⟩))
         exact⟨o,by simpa using h3,h4.mono fun v w' hv=>gZ fuel _ _ _ (by rw[ep]at hl⊢;exact Ue hl) hv⟩
       · obtain⟨o,h3,h4⟩:=Zg (h1.2 i (Gd.2 ⟨hi,fun e2=>absurd e2 em⟩))
         obtain⟨o',h3',h4'⟩:=Zg (h2.2 i (Gd.2 ⟨hi,fun e2=>absurd e2 ep⟩))
         rw[h3]at h3'
         obtain rfl:=aEn h3'
         have hun:∀k,i≠k→listed.getD k false=false→(listed.setIfInBounds i true).getD k false=false:=fun k hk hf=>by
          rw[aFx]at*
          rw[Array.getElem?_setIfInBounds,aEa hk];exact hf
         have hpo:Ox o=true:=by
          rcases hpl i o h3 with hq|hq|hq|⟨e,he,hb,hq⟩
          ·exact hq
          ·exact absurd hq em
          ·exact absurd hq ep
          · obtain⟨_,o2,h5,h6⟩:=Rh.1 hi
            rw[h3]at h5
            obtain rfl:=aEn h5
            have h7:=h6 e he hb
            rcases hq with hq|hq<;>rw[hq]at h7
            ·rw[hm]at h7;cases h7
            ·rw[hp]at h7;cases h7
         exact⟨o,by simpa using h3,(DZ hpo h4 h4').mono fun v w' ⟨hv,hv'⟩=>iF hne hpl fuel _ _ _ hv hv' (hun p ep hp) (hun m em hm)⟩
end
section
variable{P:Program}{l:List Oper}{C:Cx}{ρ:Cb}{Γ:List Ai}
theorem aHc{id:Nat}{R:Exit→Act→World→Prop}(Θ:List Ai)(m p:Nat)(ms1 ms2:List Fe)(hm:P.follows .mixedOrders=true)(hne:Nat.beq m p=false)(hpl:JM l m p=true)(hB1:Kz (tie l m p) ms1=true)(hB2:Kz (tie l p m) ms2=true)(hΘ:∀w,oks Γ w→oks Θ w)
    (h1:Dw P noT (tie l m p) Θ (R .normal) ms1 C ρ Γ []) (h2:Dw P noT (tie l p m) Θ (R .normal) ms2 C ρ Γ []):To C ρ Γ ((Code.region id l.toArray true).wp P R):=fun a w ha hp=>by
 refine wp_region_any hm (Rm.any (fun _ _ h=>h) _ _ _ _ ?_)
 have hs:∀x y,(tie l x y).toArray.size=l.toArray.size:=fun x y=>by simp[oJ]
 have g1:=Sj (l:=tie l m p) (oks Θ) ms1 hB1 (fun _ _=>Zd) (hΘ w hp.sat.each) (h1 a w [] ha hp trivial)
 have g2:=Sj (l:=tie l p m) (oks Θ) ms2 hB2 (fun _ _=>Zd) (hΘ w hp.sat.each) (h2 a w [] ha hp trivial)
 rw[hs]at g1 g2
 have hno:∀j,(Array.replicate l.toArray.size false).getD j false=false:=fun j=>by
  simp only[aFx,Array.getElem?_replicate]
  split<;>rfl
 exact iF (fun e=>by rw[e,Nat.beq_refl]at hne;cases hne) (fun i o ho=>DY hpl ho) _ _ _ _ g1 g2 (hno p) (hno m)
end
section
variable{P:Program}{T:Tel}{l:List Oper}{C:Cx}{ρ:Cb}{Γ Θ:List Ai}{Q:Act→World→Prop}{ms:List Fe}{N:List (Nat×List Ai)}{i d:Nat}{deps:List Nat}{o:Oper}
theorem sD{R:Value→List Ai→Prop}{f:FuncId}{vs:List Value}{Γ1 Δ:List Ai}(is:List Nat)(ho:l[i]?=some o)(hg:grd l.toArray ρ o=some true)(hd:o.dst=some d)(hn:Nat.blt d C.n=true)(he:Ent P o ρ f vs)(hpl:Te (flat N++Γ) is=some (Γ1,Δ))(hc:aMa P f vs Γ1 R)
    (k:∀v Γ',R v Γ'→(∀w,oks (Γ'++Δ) w→oks Θ w)∧Dw P T l Θ Q ms C ((d,v)::ρ) (Γ'++Δ) []) (hT:T i=none:=by rfl):Dw P T l Θ Q (⟨i,deps,5⟩::ms) C ρ Γ N:=fun a b h' ha hp hm=>by
 rw[Jq (m:=⟨i,deps,5⟩) ho]
 simp only[Flow]
 intro w hb _ hw ht
 refine He.callTo hT ?_
 unfold He
 rw[aEh (En hg ha.sees),he a w ha.sees]
 have hq:=hm.post hp hb hw ht
 refine(hc w ((hq.sat.perm (Hz hpl)).left)).mono ?_
 rintro e w' ⟨v,Γ',rfl,hR,hpost⟩
 obtain⟨hΘ,hk⟩:=k v Γ' hR
 have hpost':=hq.trans (Dj.at_ hpl hq.sat hpost)
 refine⟨v,rfl,hΘ w' hpost'.sat.each,?_⟩
 rw[hd]
 exact hk _ w' [] (ha.put hn) hpost' trivial
end
abbrev fe(r:Option Nat):Fence:={Fence.wide with round:=r}
theorem Ye{r:Option Nat}{n:Nat}{P:Program}{f:FuncId}{args:Array Value}{w:World}{R:Ending→World→Prop}(h:Calls P f args w R):CallsIn (fe r) n P f args w R:=callsIn_wide.2 h
theorem EA{r:Option Nat}{n:Nat}{P:Program}{row:String}{args:Array Value}{w:World}{R:Value→World→Prop}(h:Rows P row args w R):RowsIn (fe r) n P row args w R:=fun c cs _=>by
 obtain⟨v,w',h1,h2⟩:=h c cs
 exact⟨v,w',h1,(stepsIn_wide (P:=P)).2 h2⟩
theorem Na{r:Option Nat}{ρ:Operand→Value}{o:Oper}{P:Program}{w w':World}{x:Next}(h:(execOp ρ o).run P w= .ok x w')(hx:∀d,x≠ .defer d):(o.semAt r ρ).run P w= .ok x w':=by
 rw[Oper.semAt_eq r ρ o]
 ·exact h
 · intro c hc
   unfold execOp at h
   simp only[hc,Sem.run_bind]at h
   cases hr:(resolve ρ c o.type).run P w with
   | ok d w1=>
     rw[hr]at h
     simp[Result.andThen]at h
     exact hx _ h.1.symm
   |halt a b=>rw[hr]at h;simp[Result.andThen]at h
section rules
variable{P:Program}{C:Cx}{ρ ρ':Cb}{Γ Γ':List Ai}{K:Act→World→Prop}{Q:Exit→Act→World→Prop}{r:Option Nat}
theorem ToR.seq{x y:Code}(h:To C ρ Γ (x.wpIn (fe r) 0 P (Exit.then (y.wpIn (fe r) 0 P Q) Q))):To C ρ Γ ((Code.seq x y).wpIn (fe r) 0 P Q):=fun a w ha hp=>wpIn_seq (h a w ha hp)
theorem ToR.skip(h:To C ρ Γ (Q .normal)):To C ρ Γ (Code.skip.wpIn (fe r) 0 P Q):=fun a w ha hp=>wpIn_skip (h a w ha hp)
theorem ToR.exit{id:Nat}(h:To C ρ Γ (Q (.exit id))):To C ρ Γ ((Code.exit id).wpIn (fe r) 0 P Q):=fun a w ha hp=>wpIn_exit (h a w ha hp)
theorem ToR.ret(h:To C ρ Γ (Q .ret)):To C ρ Γ (Code.ret.wpIn (fe r) 0 P Q):=fun a w ha hp=>wpIn_ret (h a w ha hp)
theorem ToR.block{id:Nat}{c:Code}(h:To C ρ Γ (c.wpIn (fe r) 0 P (Exit.inBlock id Q))):To C ρ Γ ((Code.block id c).wpIn (fe r) 0 P Q):=fun a w ha hp=>wpIn_block (h a w ha hp)
theorem mE{c:Operand}{x y:Code}(hc:ev ρ c=some (.bool true))(h:To C ρ Γ (x.wpIn (fe r) 0 P Q)):To C ρ Γ ((Code.cond c x y).wpIn (fe r) 0 P Q):=
 fun a w ha hp=>wpIn_cond_true (ha.sees.eval hc) (h a w ha hp)
theorem EB{c:Operand}{x y:Code}(hc:ev ρ c=some (.bool false))(h:To C ρ Γ (y.wpIn (fe r) 0 P Q)):To C ρ Γ ((Code.cond c x y).wpIn (fe r) 0 P Q):=
 fun a w ha hp=>wpIn_cond_false (ha.sees.eval hc) (h a w ha hp)
theorem ToR.cond{c:Operand}{x y:Code}{t:Bool}(hc:ev ρ c=some (.bool t))(h1:t=true→To C ρ Γ (x.wpIn (fe r) 0 P Q))(h2:t=false→To C ρ Γ (y.wpIn (fe r) 0 P Q)):To C ρ Γ ((Code.cond c x y).wpIn (fe r) 0 P Q):=
 fun a w ha hp=>wpIn_cond_split (ha.sees.eval hc) (fun e=>h1 e a w ha hp) (fun e=>h2 e a w ha hp)
theorem mF{c:Operand}{x y:Code}{p:Prop} [Decidable p](hc:ev ρ c=some (.bool (decide p)))(h1:p→To C ρ Γ (x.wpIn (fe r) 0 P Q))(h2:¬p→To C ρ Γ (y.wpIn (fe r) 0 P Q)):To C ρ Γ ((Code.cond c x y).wpIn (fe r) 0 P Q):=
 ToR.cond hc (fun e=>h1 (aGc e)) (fun e=>h2 (aGq e))
theorem Oy{id:Nat}{l:List Oper}(h:To C ρ Γ (wpListIn (fe r) 0 P l.toArray Q l)):To C ρ Γ ((Code.region id l.toArray false).wpIn (fe r) 0 P Q):=fun a w ha hp=>wpIn_region_lit (h a w ha hp)
theorem ToR.nil{ops:Array Oper}(h:To C ρ Γ (Q .normal)):To C ρ Γ (wpListIn (fe r) 0 P ops Q []):=h
theorem wpIn_loop_ghost{F:Fence}{n:Nat}{a:Act}{w:World}{c:Code}(I:Nat→Act→World→Prop)(n₀:Nat)(h₀:I n₀ a w)
    (round:∀m a w,I m a w→c.wpIn F n P (Exit.then (fun a' w'=>∃n',n'<m∧I n' a' w') Q) a w):(Code.loop c).wpIn F n P Q a w:=by
 refine wpIn_loop (fun a w=>∃n,I n a w) (fun a w=>leastOf (fun n=>I n a w)) ⟨n₀,h₀⟩ ?_
 intro a w hI
 refine Go.wpIn_mono (round _ a w (leastOf_spec hI).1) ?_
 intro e a' w' hq
 cases e with
 | normal=>
   obtain⟨n',hlt,hI'⟩:=hq
   exact show(∃n,I n a' w')∧leastOf (fun n=>I n a' w')<leastOf (fun n=>I n a w)from⟨⟨n',hI'⟩,Nat.lt_of_le_of_lt ((leastOf_spec ⟨n',hI'⟩).2 n' hI') hlt⟩
 |exit id=>exact hq
 |goto l=>exact hq
 |ret=>exact hq
 |panic ch=>exact hq
 |outgrown=>exact hq
theorem ToR.loop{c:Code}(I:Nat→Cb→List Ai→Prop)(m0:Nat)(h0:I m0 ρ Γ)(round:∀m ρ Γ,I m ρ Γ→To C ρ Γ (c.wpIn (fe r) 0 P (Exit.then (Za C I m) Q))):To C ρ Γ ((Code.loop c).wpIn (fe r) 0 P Q):=fun _ _ ha hp=>
 wpIn_loop_ghost (fun m a w=>∃ρ Γ,I m ρ Γ∧Has C.n C.ds ρ a∧Dj C.Γ0 Γ C.w0 w) m0 ⟨ρ,Γ,h0,ha,hp⟩ fun m a w ⟨ρ,Γ,hI,ha,hp⟩=>round m ρ Γ hI a w ha hp
theorem QC{c:Code}(h:To C ρ Γ (c.wpIn (fe r) 0 P (Exit.then (fun _ _=>False) Q))):To C ρ Γ ((Code.loop c).wpIn (fe r) 0 P Q):=fun a w ha hp=>wpIn_loop_once (h a w ha hp)
theorem To.wide{c:Code}(h:To C ρ Γ (c.wpIn (fe none) 0 P Q)):To C ρ Γ (c.wp P Q):=fun a w ha hp=>wpIn_wide.1 (h a w ha hp)
end rules
section walk
variable{P:Program}{o:Oper}{ρ:Cb}{Γ Γ':List Ai}{C:Cx}{ops:Array Oper}{Q:Exit→Act→World→Prop}{rest:List Oper}{v:Value}{d:Nat}{r:Option Nat}{x:Operand}
theorem Vo{a:Act}{w w':World}{v:Value}(hg:Region.wanted o (yielded ops a.tmps)=true)(hr:(execOp a.eval o).run P w= .ok (.value v) w')(k:wpListIn (fe r) 0 P ops Q rest (a.put o.dst v) w'):wpListIn (fe r) 0 P ops Q (o::rest) a w:=by
 refine wpListIn_step fun K hK=>?_
 rw[aEh hg]
 refine⟨fun _ _=>trivial,?_⟩
 rw[show(o.semAt (fe r).round a.eval).run P w=_ from Na hr (by simp)]
 exact hK _ _ k
theorem oM{a:Act}{w w':World}(hg:Region.wanted o (yielded ops a.tmps)=true)(hr:(execOp a.eval o).run P w= .ok .skip w')(k:wpListIn (fe r) 0 P ops Q rest (a.put o.dst undef) w'):wpListIn (fe r) 0 P ops Q (o::rest) a w:=by
 refine wpListIn_step fun K hK=>?_
 rw[aEh hg]
 refine⟨fun _ _=>trivial,?_⟩
 rw[show(o.semAt (fe r).round a.eval).run P w=_ from Na hr (by simp)]
 exact hK _ _ k
theorem ToR.rd(hg:grd ops ρ o=some true)(hd:o.dst=some d)(hn:Nat.blt d C.n=true)(h:Rd P o ρ Γ v)(k:To C ((d,v)::ρ) Γ (wpListIn (fe r) 0 P ops Q rest)):To C ρ Γ (wpListIn (fe r) 0 P ops Q (o::rest)):=
 fun a w ha hp=>Vo (En hg ha.sees) (h a w ha.sees hp.sat.each) (by rw[hd];exact k _ w (ha.put hn) hp)
theorem ToR.sk(hg:grd ops ρ o=some false)(hd:o.dst=some d)(hn:Nat.blt d C.n=true)(k:To C ((d,undef)::ρ) Γ (wpListIn (fe r) 0 P ops Q rest)):To C ρ Γ (wpListIn (fe r) 0 P ops Q (o::rest)):=
 fun a w ha hp=>by
  refine wpListIn_step fun K hK=>?_
  rw[aEa (by rw[En hg ha.sees];simp),hd]
  exact⟨fun _ _=>trivial,hK _ _ (k _ w (ha.put hn) hp)⟩
theorem ToR.up(hg:grd ops ρ o=some true)(hd:o.dst=none)(h:Up P o ρ Γ Γ')(k:To C ρ Γ' (wpListIn (fe r) 0 P ops Q rest)):To C ρ Γ (wpListIn (fe r) 0 P ops Q (o::rest)):=
 fun a w ha hp=>by
  obtain⟨w',hr,hq⟩:=h a w ha.sees hp.sat
  refine oM (En hg ha.sees) hr ?_
  rw[hd]
  exact k a w' ha (hp.trans hq)
theorem ToR.mk{R:Value→List Ai→Prop}(hg:grd ops ρ o=some true)(hd:o.dst=some d)(hn:Nat.blt d C.n=true)(h:Mk P o ρ Γ R)(k:∀v N,R v N→To C ((d,v)::ρ) (N++Γ) (wpListIn (fe r) 0 P ops Q rest)):To C ρ Γ (wpListIn (fe r) 0 P ops Q (o::rest)):=
 fun a w ha hp=>by
  obtain⟨v,N,w',hr,hR,hq⟩:=h a w ha.sees hp.sat.each
  refine Vo (En hg ha.sees) hr ?_
  rw[hd]
  exact k v N hR _ w' (ha.put hn) (hp.trans (hq.add hp.sat))
theorem ToR.ge{R:Value→List Ai→Prop}(hg:grd ops ρ o=some true)(hd:o.dst=some d)(hn:Nat.blt d C.n=true)(h:Ge P o ρ Γ R)(k:∀v Γ',R v Γ'→To C ((d,v)::ρ) Γ' (wpListIn (fe r) 0 P ops Q rest)):To C ρ Γ (wpListIn (fe r) 0 P ops Q (o::rest)):=
 fun a w ha hp=>by
  obtain⟨v,Γ',w',hr,hR,hq⟩:=h a w ha.sees hp.sat
  refine Vo (En hg ha.sees) hr ?_
  rw[hd]
  exact k v Γ' hR _ w' (ha.put hn) (hp.trans hq)
theorem ToR.call{R:Value→List Ai→Prop}{f:FuncId}{vs:List Value}{Γ1 Δ:List Ai}(is:List Nat)(hg:grd ops ρ o=some true)(hd:o.dst=some d)(hn:Nat.blt d C.n=true)(he:Ent P o ρ f vs)(hp:Te Γ is=some (Γ1,Δ))
    (hc:aMa P f vs Γ1 R) (k:∀v Γ',R v Γ'→To C ((d,v)::ρ) (Γ'++Δ) (wpListIn (fe r) 0 P ops Q rest)):To C ρ Γ (wpListIn (fe r) 0 P ops Q (o::rest)):=
 fun a w ha hq=>by
  refine wpListIn_step fun K hK=>?_
  rw[aEh (En hg ha.sees)]
  refine⟨fun _ _=>trivial,?_⟩
  rw[show(o.semAt (fe r).round a.eval).run P w=_ from Na (he a w ha.sees) (by simp)]
  refine⟨fun h=>by simp[Fence.wide]at h,Ye ((hc w ((hq.sat.perm (Hz hp)).left)).mono ?_)⟩
  rintro e w' ⟨v,Γ',rfl,hR,hpost⟩
  show K _ _
  rw[hd]
  exact hK _ _ (k v Γ' hR _ w' (ha.put hn) (hq.trans (Dj.at_ hp hq.sat hpost)))
theorem EC{R:Value→List Ai→Prop}{f:FuncId}{vs:List Value}{Γ1:List Ai}(hg:grd ops ρ o=some true)(hd:o.dst=some d)(hn:Nat.blt d C.n=true)(he:Ent P o ρ f vs)(hc:aMa P f vs Γ1 R)(hq:owns Γ1=[])(hs:∀w,oks Γ w→oks Γ1 w)
    (k:∀v Γ',R v Γ'→reads Γ'=[]∧To C ((d,v)::ρ) (Γ'++Γ) (wpListIn (fe r) 0 P ops Q rest)):To C ρ Γ (wpListIn (fe r) 0 P ops Q (o::rest)):=
 fun a w ha hp=>by
  refine wpListIn_step fun K hK=>?_
  rw[aEh (En hg ha.sees)]
  refine⟨fun _ _=>trivial,?_⟩
  rw[show(o.semAt (fe r).round a.eval).run P w=_ from Na (he a w ha.sees) (by simp)]
  refine⟨fun h=>by simp[Fence.wide]at h,Ye ((hc w (Ig hq (hs w hp.sat.each))).mono ?_)⟩
  rintro e w' ⟨v,Γ',rfl,hR,hpost⟩
  show K _ _
  rw[hd]
  obtain⟨hr,hk⟩:=k v Γ' hR
  exact hK _ _ (hk _ w' (ha.put hn) (hp.trans ((Ub hq hpost hr).add hp.sat)))
theorem YZ{f:FuncId}{vs:List Value}{Γ1:List Ai}(hg:grd ops ρ o=some true)(hd:o.dst=some d)(hn:Nat.blt d C.n=true)(he:Ent P o ρ f vs)(hc:aMa P f vs Γ1 (fun v' _=>v'=v))(hq:owns Γ1=[])(hs:∀w,oks Γ w→oks Γ1 w)
    (k:To C ((d,v)::ρ) Γ (wpListIn (fe r) 0 P ops Q rest)):To C ρ Γ (wpListIn (fe r) 0 P ops Q (o::rest)):=
 EC (R:=fun v' Γ'=>v'=v∧Γ'=[]) hg hd hn he (fun w hw=>(hc w hw).mono fun e w' ⟨v',Γ',h1,h2,h3⟩=>⟨v',[],h1,⟨h2,rfl⟩,Dj.drop (Γ':=[]) h3⟩) hq hs fun v' Γ' ⟨h1,h2⟩=>by subst h1 h2;exact⟨rfl,k⟩
theorem ToR.alloc{ty:TypeId}{zs:List Value}(hg:grd ops ρ o=some true)(hd:o.dst=some d)(hn:Nat.blt d C.n=true)(ho:o.op= .alloc ty)(hz:Di P ty zs)(k:∀b,To C ((d,pv b)::ρ) (box b zs ty::Γ) (wpListIn (fe r) 0 P ops Q rest)):To C ρ Γ (wpListIn (fe r) 0 P ops Q (o::rest)):=
 ToR.mk hg hd hn (Mk.alloc ho hz) fun _ _ ⟨b,h1,h2⟩=>by subst h1 h2;exact k b
theorem ZA{ty:TypeId}{u:Value}{us:List Value}(hg:grd ops ρ o=some true)(hd:o.dst=some d)(hn:Nat.blt d C.n=true)(ho:o.op= .box ty x)(hx:ev ρ x=some u)(hu:u.cells=us.toArray)(k:∀b,To C ((d,pv b)::ρ) (box b us ty::Γ) (wpListIn (fe r) 0 P ops Q rest)):To C ρ Γ (wpListIn (fe r) 0 P ops Q (o::rest)):=
 ToR.mk hg hd hn (Mk.box ho hx hu) fun _ _ ⟨b,h1,h2⟩=>by subst h1 h2;exact k b
theorem QD{t:Bool}(hg:grd ops ρ o=some true)(hd:o.dst=some d)(hn:Nat.blt d C.n=true)(h:Rd P o ρ Γ (.bool t))(h1:t=true→To C ((d, .bool true)::ρ) Γ (wpListIn (fe r) 0 P ops Q rest))(h2:t=false→To C ((d, .bool false)::ρ) Γ (wpListIn (fe r) 0 P ops Q rest)):To C ρ Γ (wpListIn (fe r) 0 P ops Q (o::rest)):=by
 cases t
 ·exact ToR.rd hg hd hn h (h2 rfl)
 ·exact ToR.rd hg hd hn h (h1 rfl)
theorem QE{p:Prop} [Decidable p](hg:grd ops ρ o=some true)(hd:o.dst=some d)(hn:Nat.blt d C.n=true)(h:Rd P o ρ Γ (.bool (decide p)))(h1:p→To C ((d, .bool true)::ρ) Γ (wpListIn (fe r) 0 P ops Q rest))(h2:¬p→To C ((d, .bool false)::ρ) Γ (wpListIn (fe r) 0 P ops Q rest)):To C ρ Γ (wpListIn (fe r) 0 P ops Q (o::rest)):=
 QD hg hd hn h (fun e=>h1 (aGc e)) (fun e=>h2 (aGq e))
end walk
theorem He.wpOpIn{P:Program}{ops:Array Oper}{Q:Exit→Act→World→Prop}{r:Option Nat}{i:Nat}{o:Oper}(ho:ops[i]?=some o){a:Act}{w:World}{K:Value→World→Prop}{K':Act→World→Prop}
    (k:He P ops o a w K) (hk:∀v w',K v w'→K' (a.put o.dst v) w'):Go.wpOpIn (fe r) 0 P ops Q i K' a w:=by
 unfold Go.wpOpIn
 simp only[ho]
 unfold He at k
 split at k
 · rename_i hw
   rw[aEh hw]
   refine⟨fun _ _=>trivial,?_⟩
   unfold nW at k
   split at k
   ·rename_i he;rw[show(o.semAt (fe r).round a.eval).run P w=_ from Na he (by simp)];exact hk _ _ k
   ·rename_i he;rw[show(o.semAt (fe r).round a.eval).run P w=_ from Na he (by simp)];exact hk _ _ k
   · rename_i he;rw[show(o.semAt (fe r).round a.eval).run P w=_ from Na he (by simp)]
     refine⟨fun h=>by simp[Fence.wide]at h,Ye (Calls.mono k fun e w'' hh=>?_)⟩
     obtain⟨v,rfl,hv⟩:=hh
     exact hk _ _ hv
   · rename_i he;rw[show(o.semAt (fe r).round a.eval).run P w=_ from Na he (by simp)]
     exact⟨fun h=>by simp[Fence.wide]at h,EA (Rows.mono k fun v w'' hv=>hk _ _ hv)⟩
   ·exact k.elim
 · rename_i hw
   rw[aEa hw]
   exact⟨fun _ _=>trivial,hk _ _ k⟩
theorem iG{P:Program}{ops:Array Oper}{r:Option Nat}{Q:Act→World→Prop}{R:Exit→Act→World→Prop}(hR:∀a w,Q a w→R .normal a w):∀(fuel:Nat) (listed:Array Bool) (a:Act) (w:World),Rm P ops Q fuel listed a w→wpAnyIn (fe r) 0 P .any ops R fuel listed a w
 |0,_,_,_,h=>⟨h.1,hR _ _ h.2⟩
 |fuel+1,_,a,w,h=>⟨fun hr=>hR _ _ (h.1 hr),fun i hi=>by
     obtain⟨o,h1,h2⟩:=h.2 i hi
     exact He.wpOpIn h1 h2 fun v w' hv=>iG hR fuel _ _ _ hv⟩
theorem ToR.flow{P:Program}{C:Cx}{ρ:Cb}{Γ:List Ai}{l:List Oper}{r:Option Nat}{id:Nat}{R:Exit→Act→World→Prop}(Θ:List Ai)(ms:List Fe)(hm:P.follows .mixedOrders=true)(hB:Kz l ms=true)(hΘ:∀w,oks Γ w→oks Θ w)(h:Dw P noT l Θ (R .normal) ms C ρ Γ []):To C ρ Γ ((Code.region id l.toArray true).wpIn (fe r) 0 P R):=
 fun a w ha hp=>wpIn_region_any hm (iG (fun _ _ h=>h) _ _ _ _ (Sj (oks Θ) ms hB (fun _ _=>Zd) (hΘ w hp.sat.each) (h a w [] ha hp trivial)))
def Jg(l:Nat)(L:Loop)(s:LoopState)(p:Option Code):Ai where
 owns:=[l]
 reads:=[]
 holds w:=w.heap[l]?=some (.loop {L with state:=s,pending:=p})
 loc w w' h hw:=by rw[h l (.inl (by simp))];exact hw
 lt w hw g hg:=by
  simp only[aEr,aEs,or_false]at hg
  subst hg
  exact(Array.getElem?_eq_some_iff.1 hw).1
def dfr(D:Nat):Ai where
 owns:=[D]
 reads:=[]
 holds w:=w.heap[D]?=some (.deferred (some []))
 loc w w' h hw:=by rw[h D (.inl (by simp))];exact hw
 lt w hw g hg:=by
  simp only[aEr,aEs,or_false]at hg
  subst hg
  exact(Array.getElem?_eq_some_iff.1 hw).1
theorem Zo(w:World)(l:Nat)(o:Obj):Ey (fun g=>g=l) w (w.putObj l o) where
 os:=rfl
 tape:=rfl
 output:=rfl
 size:=by simp
 drawn:=aEu _
 block g _ hg:=World.putObj_heap_other (fun e=>hg (by rw[e]))
theorem Qq{w:World}{l:Nat}{o:Obj}{c c':Ai}{Γ:List Ai}(hs:sat (c::Γ) w)(hc:c.owns=[l])(hc':c'.owns=[l])(hr':c'.reads=[])(h:c'.holds (w.putObj l o)):Dj (c::Γ) (c'::Γ) w (w.putObj l o):=by
 refine Dj.frame (Γ:=[c]) (Γ':=[c']) (Δ:=Γ) hs ⟨⟨?_,?_,?_⟩,?_,?_,?_⟩
 ·intro x hx;rw[aEr.1 hx];exact h
 ·simp[owns,hc']
 ·intro g hg;simp[reads,hr']at hg
 · refine(Zo w l o).mono fun g _ hg=>?_
   simp[owns,hc,hg]
 ·intro g hg _;simpa[owns,hc,hc']using hg
 ·intro g hg;simp[reads,hr']at hg
theorem iH{w:World}{o:Obj}{c:Ai}(hc:c.owns=[w.heap.size])(hr:c.reads=[])(h:c.holds (w.alloc o)):Dj [] [c] w (w.alloc o):=by
 refine⟨⟨?_,?_,?_⟩,?_,?_,?_⟩
 ·intro x hx;rw[aEr.1 hx];exact h
 ·simp[owns,hc]
 ·intro g hg;simp[reads,hr]at hg
 ·exact Ra ⟨(Below.refl _ w).alloc (aEu _) _,aEu _⟩
 · intro g hg hl
   have:g=w.heap.size:=by simpa[owns,hc]using hg
   omega
 ·intro g hg;simp[reads,hr]at hg
def Qa(P:Program)(l:Nat)(args:List Value)(Γ:List Ai)(R:Value→List Ai→Prop):Prop:=
 ∀w,sat Γ w→∃f tmps assign body,(Instr.yield l args.toArray).run P w= .ok (.round l f tmps assign body) w∧
  RoundIn Fence.wide 0 P l f tmps assign body w fun e w'=>∃v Γ',e= .returned v∧R v Γ'∧Dj Γ Γ' w w'
def QF(P:Program)(o:Oper)(ρ:Cb)(l:Nat)(vs:List Value):Prop:=∀a w,Xi ρ a→(execOp a.eval o).run P w=(Instr.yield l vs.toArray).run P w
theorem QF.of{P:Program}{o:Oper}{ρ:Cb}{l:Nat}{xs:List Operand}{ts:Array TypeId}{vs:List Value}{c:Operand}(ho:o.op= .call {callee:= .value c,args:=xs.toArray,argTypes:=ts})(hc:ev ρ c=some (.func (.yield l) #[] #[]))(hv:evs ρ xs=some vs):QF P o ρ l vs:=fun a w ha=>by
 unfold execOp
 simp only[ho,resolve,ha.eval hc,List.map_toArray,ha.evals hv,Deferred.ofValue,invoke,Sem.run_bind,Sem.run_pure,Result.andThen_ok]
 simp
theorem ToR.round{P:Program}{o:Oper}{ρ:Cb}{Γ:List Ai}{C:Cx}{ops:Array Oper}{Q:Exit→Act→World→Prop}{rest:List Oper}{d:Nat}{r:Option Nat}{R:Value→List Ai→Prop}{l:Nat}{vs:List Value}{Γ1 Δ:List Ai}(is:List Nat)(hg:grd ops ρ o=some true)(hd:o.dst=some d)(hn:Nat.blt d C.n=true)(he:QF P o ρ l vs)(hp:Te Γ is=some (Γ1,Δ))
    (hc:Qa P l vs Γ1 R) (k:∀v Γ',R v Γ'→To C ((d,v)::ρ) (Γ'++Δ) (wpListIn (fe r) 0 P ops Q rest)):To C ρ Γ (wpListIn (fe r) 0 P ops Q (o::rest)):=
 fun a w ha hq=>by
  refine wpListIn_step fun K hK=>?_
  rw[aEh (En hg ha.sees)]
  refine⟨fun _ _=>trivial,?_⟩
  obtain⟨f,tmps,assign,body,h1,h2⟩:=hc w ((hq.sat.perm (Hz hp)).left)
  have h3:(execOp a.eval o).run P w=_:=(he a w ha.sees).trans h1
  rw[show(o.semAt (fe r).round a.eval).run P w=_ from Na h3 (by simp)]
  refine⟨fun h=>by simp[Fence.wide]at h,RoundIn.mono (F:=fe r) (n:=0) h2 ?_⟩
  rintro e w' ⟨v,Γ',rfl,hR,hpost⟩
  show K _ _
  rw[hd]
  exact hK _ _ (k v Γ' hR _ w' (ha.put hn) (hq.trans (Dj.at_ hp hq.sat hpost)))
def begins(P:Program)(l:Nat)(K:Act→World→Prop)(a:Act)(w:World):Prop:=∃w2,(Instr.beginRound l).run P w= .ok () w2∧K a w2
section
variable{P:Program}{C:Cx}{ρ:Cb}{Γ:List Ai}{K:Act→World→Prop}{l:Nat}{L:Loop}{R:Value→List Ai→Prop}
theorem ED(h:To C ρ (Jg l L .busy none::Γ) K):To C ρ (Jg l L .ready none::Γ) (begins P l K):=fun a w ha hq=>by
 have hl:w.heap[l]?=some (.loop {L with state:= .ready,pending:=none}):=hq.sat.each _ (aEd ..)
 refine⟨_,run_beginRound hl rfl,h a _ ha (hq.trans (Qq hq.sat rfl rfl rfl ?_))⟩
 exact World.putObj_heap_same (Array.getElem?_eq_some_iff.1 hl).1
theorem EE(h:R (.bool true) [all (Jg l L .ready none::Γ)]):To C ρ (Jg l L .busy none::Γ) (roundPost P l (Fin C R) .normal):=fun a w ha hq=>by
 have hl:w.heap[l]?=some (.loop {L with state:= .busy,pending:=none}):=hq.sat.each _ (aEd ..)
 refine⟨_,_,run_endRound none hl, .bool true,_,rfl,h,?_⟩
 have:=hq.trans (Qq (c':=Jg l L .ready none) hq.sat rfl rfl rfl (World.putObj_heap_same (Array.getElem?_eq_some_iff.1 hl).1))
 exact⟨Sr.2 (by simpa using this.sat),this.keeps,fun g hg=>this.own g (by simpa[owns,all]using hg),fun g hg=>this.rd g (by simpa[reads,all]using hg)⟩
theorem zP(h:R (.bool false) [all (Jg l L .done (some .ret)::Γ)]):To C ρ (Jg l L .busy none::Γ) (roundPost P l (Fin C R) .ret):=fun a w ha hq=>by
 have hl:w.heap[l]?=some (.loop {L with state:= .busy,pending:=none}):=hq.sat.each _ (aEd ..)
 refine⟨_,_,run_endRound (some .ret) hl, .bool false,_,rfl,h,?_⟩
 have:=hq.trans (Qq (c':=Jg l L .done (some .ret)) hq.sat rfl rfl rfl (World.putObj_heap_same (Array.getElem?_eq_some_iff.1 hl).1))
 exact⟨Sr.2 (by simpa using this.sat),this.keeps,fun g hg=>this.own g (by simpa[owns,all]using hg),fun g hg=>this.rd g (by simpa[reads,all]using hg)⟩
end
theorem Qa.of{P:Program}{l:Nat}{L:Loop}{p n:Nat}{v:Value}{ρ:Cb}{Γe Γc:List Ai}{R:Value→List Ai→Prop}{assign body:Code}(hp:L.params=#[p])(ha:L.assign=assign)(hb:L.body=body)(hL:Has n [] ρ ⟨L.tmps,[]⟩)(hn:Nat.blt p n=true)
    (h:∀w,To ⟨n,Γe++[all (Jg l L .ready none::Γc)],w,[]⟩ ((p,v)::ρ) (Jg l L .ready none::(Γe++Γc))
     (assign.wpIn (fe (some l)) 0 P (Exit.then (begins P l (body.wpIn (fe (some l)) 0 P (roundPost P l (Fin ⟨n,Γe++[all (Jg l L .ready none::Γc)],w,[]⟩ R)))) (fun _ _ _=>False)))):
    Qa P l [v] (Γe++[all (Jg l L .ready none::Γc)]) R:=fun w hs=>by
 have hs1:sat (all (Jg l L .ready none::Γc)::Γe) w:=hs.perm aEt
 have hs2:sat ((Jg l L .ready none::Γc)++Γe) w:=Sr.1 hs1
 have hs3:sat (Jg l L .ready none::(Γe++Γc)) w:=hs2.perm (List.Perm.cons _ aEt)
 have hl:w.heap[l]?=some (.loop {L with state:= .ready,pending:=none}):=hs3.each _ (aEd ..)
 refine⟨_,_,_,_,run_yield hl (by simp[hp]),?_⟩
 refine roundIn_of_wpIn (F:=Fence.wide) trivial ?_
 have h0:=h w {tmps:=L.tmps.setIfInBounds p v,defers:=[]} w ?_ ?_
 · rw[ha,hb]
   have e1:((L.params.zip #[v]).foldl (fun tmps (x:Tmp×Value)=>tmps.setIfInBounds x.1 x.2) L.tmps)=L.tmps.setIfInBounds p v:=by rw[hp];simp
   show assign.wpIn (fe (some l)) 0 P _ ⟨(L.params.zip #[v]).foldl (fun tmps (x:Tmp×Value)=>tmps.setIfInBounds x.1 x.2) L.tmps,[]⟩ w
   rw[e1]
   exact h0
 ·exact hL.put hn
 · refine⟨hs3,Ey.refl _ _,fun g hg _=>?_,fun g hg _=> .inr ?_⟩
   · have:g∈owns (Jg l L .ready none::(Γe++Γc)):=hg
     rw[Dt]
     simp only[owns,aFf,aFe,aFi,List.flatMap_nil,aEz,all]at this⊢
     rcases this with h|h|h
     ·exact .inr (.inl h)
     ·exact .inl h
     ·exact .inr (.inr h)
   · have:g∈reads (Jg l L .ready none::(Γe++Γc)):=hg
     rw[Ew]
     simp only[reads,aFf,aFe,aFi,List.flatMap_nil,aEz,all]at this⊢
     rcases this with h|h|h
     ·exact .inr (.inl h)
     ·exact .inl h
     ·exact .inr (.inr h)
def mark(D:Nat):Deferred:={target:= .collected D,args:=#[]}
theorem sF{P:Program}{f:FuncId}{args:List Value}{Γ:List Ai}{R:Value→List Ai→Prop}{fn:Func}{c:Code}{n:Nat}
    (hf:P.funcs[f]?=some fn) (hb:fn.body=some c) (hn:fn.ntmps=n) (hl:Nat.ble args.length n=true)
    (h:∀w,To ⟨n,Γ,w,[]⟩ (slotsOf 0 args) Γ (c.wpIn (fe none) 0 P (bodyPost P fn (Fin ⟨n,Γ,w,[]⟩ R)))):aMa P f args Γ R:=
 aMa.enter hf hb hn hl fun w=>To.wide (h w)
theorem sG{P:Program}{f:FuncId}{args:List Value}{Γ:List Ai}{R:Value→List Ai→Prop}{fn:Func}{c:Code}{n:Nat}
    (hf:P.funcs[f]?=some fn) (hb:fn.body=some c) (hn:fn.ntmps=n) (hl:Nat.ble args.length n=true)
    (h:∀w,To ⟨n,Γ,w,[]⟩ (slotsOf 0 args) Γ (c.wp P (bodyPostM Fence.wide 0 P fn (Fin ⟨n,Γ,w,[]⟩ R)))):aMa P f args Γ R:=fun w hs=>by
 refine callsIn_wide.1 (callsIn_of_wp_marks (F:=Fence.wide) (n:=0) hf hb trivial (wpIn_wide.2 ?_) rfl)
 rw[hn]
 exact h w _ w (Wo args n hl) (Dj.refl hs)
theorem UT{P:Program}{C:Cx}{ρ:Cb}{Γ:List Ai}{R:Value→List Ai→Prop}{fn:Func}{ex:Exit}{t b D i:Nat}{ty ty':TypeId}{v:Value}{n0:Nat}{Γ0:List Ai}{w0:World}(hex:ex= .ret∨ex= .normal)(hres:fn.results=#[.cell t ty])(hv:look ρ t=some (pv b))
    (hi:Γ[i]?=some (box b [v] ty')) (ht:Cn P ty) (hds:C.ds=[mark D]) (h0:C=⟨n0,Γ0,w0,C.ds⟩) (h:R v []):To C ρ (dfr D::Γ) (bodyPostM Fence.wide 0 P fn (Fin ⟨n0,Γ0,w0,[]⟩ R) ex):=fun a w ha hp=>by
 have hD:w.heap[D]?=some (.deferred (some [])):=hp.sat.each _ (aEd ..)
 have hne:b≠D:=fun e=>by
  have hnd:=hp.sat.nodup
  simp only[owns,aFf,dfr,aGp,aGi,List.nodup_cons]at hnd
  exact hnd.1 (aEy.2 ⟨_,mog hi,by simp[box,e]⟩)
 have hb:w.heap[b]?=some (.cells #[v] ty' (0,0)):=hp.sat.each _ (aEb _ (mog hi))
 have hb2:(w.putObj D (.deferred none)).heap[b]?=some (.cells #[v] ty' (0,0)):=(World.putObj_heap_other hne).trans hb
 have key:LeavesInM Fence.wide 0 P fn a.tmps (Fin ⟨n0,Γ0,w0,[]⟩ R) a.defers .returning w:=by
  rw[ha.defers,hds]
  refine⟨by simp, .inl ⟨D,_,rfl,run_takeDeferred hD,?_⟩⟩
  refine⟨v,?_,v,[],rfl,h,?_⟩
  · obtain⟨d,h1,h2,_⟩:=ht
    have he:a.tmps[t]?.getD undef=pv b:=by rw[ha.sees t _ hv];rfl
    have hc:(w.putObj D (.deferred none)).cell? ⟨b,0,none⟩=some v:=by simp[World.cell?,hb2]
    have hagg:(isAgg ty).run P (w.putObj D (.deferred none))= .ok false (w.putObj D (.deferred none)):=by
     unfold isAgg
     rw[Sem.run_bind,run_underlying h1]
     cases d<;>first|rfl|(simp[TypeDesc.isRow]at h2)
    simp[results,hres,he,asAddr,loadVar,hagg,hc]
  · have e1:C.Γ0=Γ0∧C.w0=w0:=by rw[h0];exact⟨rfl,rfl⟩
    have q:Dj (dfr D::Γ) [] w (w.putObj D (.deferred none)):=by
     refine⟨sat.nil _,(Zo w D _).mono fun g _ hg=>?_,by simp[owns],by simp[reads]⟩
     subst hg
     simp[owns,dfr]
    have:=hp.trans q
    rw[e1.1,e1.2]at this
    exact this
 rcases hex with rfl|rfl
 ·exact key
 ·exact key
theorem lL{P:Program}{l:Nat}{L:Loop}{p q n:Nat}{v u:Value}{ρ:Cb}{Γe Γc:List Ai}{R:Value→List Ai→Prop}{assign body:Code}(hp:L.params=#[p,q])(ha:L.assign=assign)(hb:L.body=body)(hL:Has n [] ρ ⟨L.tmps,[]⟩)(hn:Nat.blt p n=true)(hn2:Nat.blt q n=true)
    (h:∀w,To ⟨n,Γe++[all (Jg l L .ready none::Γc)],w,[]⟩ ((q,u)::(p,v)::ρ) (Jg l L .ready none::(Γe++Γc))
     (assign.wpIn (fe (some l)) 0 P (Exit.then (begins P l (body.wpIn (fe (some l)) 0 P (roundPost P l (Fin ⟨n,Γe++[all (Jg l L .ready none::Γc)],w,[]⟩ R)))) (fun _ _ _=>False)))):
    Qa P l [v,u] (Γe++[all (Jg l L .ready none::Γc)]) R:=fun w hs=>by
 have hs1:sat (all (Jg l L .ready none::Γc)::Γe) w:=hs.perm aEt
 have hs2:sat ((Jg l L .ready none::Γc)++Γe) w:=Sr.1 hs1
 have hs3:sat (Jg l L .ready none::(Γe++Γc)) w:=hs2.perm (List.Perm.cons _ aEt)
 have hl:w.heap[l]?=some (.loop {L with state:= .ready,pending:=none}):=hs3.each _ (aEd ..)
 refine⟨_,_,_,_,run_yield hl (by simp[hp]),?_⟩
 refine roundIn_of_wpIn (F:=Fence.wide) trivial ?_
 have h0:=h w {tmps:=(L.tmps.setIfInBounds p v).setIfInBounds q u,defers:=[]} w ?_ ?_
 · rw[ha,hb]
   have e1:((L.params.zip #[v,u]).foldl (fun tmps (x:Tmp×Value)=>tmps.setIfInBounds x.1 x.2) L.tmps)=(L.tmps.setIfInBounds p v).setIfInBounds q u:=by rw[hp];simp
   show assign.wpIn (fe (some l)) 0 P _ ⟨(L.params.zip #[v,u]).foldl (fun tmps (x:Tmp×Value)=>tmps.setIfInBounds x.1 x.2) L.tmps,[]⟩ w
   rw[e1]
   exact h0
 ·exact(hL.put hn).put hn2
 · refine⟨hs3,Ey.refl _ _,fun g hg _=>?_,fun g hg _=> .inr ?_⟩
   · have:g∈owns (Jg l L .ready none::(Γe++Γc)):=hg
     rw[Dt]
     simp only[owns,aFf,aFe,aFi,List.flatMap_nil,aEz,all]at this⊢
     rcases this with h|h|h
     ·exact .inr (.inl h)
     ·exact .inl h
     ·exact .inr (.inr h)
   · have:g∈reads (Jg l L .ready none::(Γe++Γc)):=hg
     rw[Ew]
     simp only[reads,aFf,aFe,aFi,List.flatMap_nil,aEz,all]at this⊢
     rcases this with h|h|h
     ·exact .inr (.inl h)
     ·exact .inl h
     ·exact .inr (.inr h)
theorem lM{P:Program}{C:Cx}{ρ:Cb}{Γa Γc:List Ai}{Q:Exit→Act→World→Prop}{g:Operand}{ps:Array Nat}{assign body:Code}{gf:FuncId}{lb:List Value}(Rn Rx:List Ai→Prop)
    (hg:ev ρ g=some (.func (.func gf) #[] lb.toArray)) (hc:Qo P gf=true)
    (h:∀l (L:Loop),L.params=ps→L.assign=assign→L.body=body→Has C.n [] ρ ⟨L.tmps,[]⟩→
     aMa P gf (.func (.yield l) #[] #[]::lb) (Γa++[all (Jg l L .ready none::Γc)]) (fun _ Γ'=>∃Γ2,(Γ'=[all (Jg l L .ready none::Γ2)]∧Rn Γ2)∨(Γ'=[all (Jg l L .done (some .ret)::Γ2)]∧Rx Γ2)))
    (k1:∀D Γ2,Rn Γ2→To ⟨C.n,C.Γ0,C.w0,mark D::C.ds⟩ ρ (dfr D::Γ2) (Q .normal))
    (k2:∀D Γ2,Rx Γ2→To ⟨C.n,C.Γ0,C.w0,mark D::C.ds⟩ ρ (dfr D::Γ2) (Q .ret)):To C ρ (Γa++Γc) ((Code.rangeFunc g ps assign body).wp P Q):=fun a w ha hq=>by
 refine wpIn_wide (n:=0).1 (wpIn_rangeFunc ?_)
 intro fn _
 let L:Loop:={state:= .ready,pending:=none,fn:=fn,tmps:=a.tmps,params:=ps,assign:=assign,body:=body,defers:=w.heap.size}
 have hgv:a.eval g= .func (.func gf) #[] lb.toArray:=ha.sees.eval hg
 let W1:=(w.alloc (.deferred (some []))).alloc (.loop L)
 have p1:Dj [] [dfr w.heap.size] w (w.alloc (.deferred (some []))):=iH rfl rfl (World.alloc_heap_new w _)
 have p2:Dj [] [Jg (w.heap.size+1) L .ready none] (w.alloc (.deferred (some []))) W1:=iH (by rw[World.size_alloc];rfl) rfl (by
  have:=World.alloc_heap_new (w.alloc (.deferred (some []))) (.loop L)
  rw[World.size_alloc]at this
  exact this)
 have q1:=hq.trans (p1.add hq.sat)
 have q2:Dj C.Γ0 (Jg (w.heap.size+1) L .ready none::dfr w.heap.size::(Γa++Γc)) C.w0 W1:=q1.trans (p2.add q1.sat)
 refine⟨w.heap.size+1,[mark w.heap.size],W1,{target:= .fn (.func gf) lb.toArray,args:=#[.func (.yield (w.heap.size+1)) #[] #[]]},W1,gf,
  #[.func (.yield (w.heap.size+1)) #[] #[]]++lb.toArray,W1,?_,?_,fun _ _=>trivial,?_,fun h=>by simp[Fence.wide]at h,?_⟩
 ·exact run_enterLoop_outer _ _ _ _ _
 · simp only[resolve,hgv]
   simp[go_sem]
 ·simp[invoke,go_sem,Zc hc]
 · refine callsIn_wide.2 ?_
   have hd:=h (w.heap.size+1) L rfl rfl rfl ⟨ha.size,rfl,fun t v ht=>ha.sees t v ht⟩
   -- the chunks, parted
   have pm:(Jg (w.heap.size+1) L .ready none::dfr w.heap.size::(Γa++Γc)).Perm ((Γa++(Jg (w.heap.size+1) L .ready none::Γc))++[dfr w.heap.size]):=by
    refine((aFc _ _ _).trans ?_).trans (aEt (l₁:=[dfr w.heap.size]))
    exact List.Perm.cons _ aEl.symm
   have q3:=q2.perm pm
   have hs4:sat (Γa++[all (Jg (w.heap.size+1) L .ready none::Γc)]) W1:=by
    have h1:=q3.sat.left
    have h2:sat ((Jg (w.heap.size+1) L .ready none::Γc)++Γa) W1:=h1.perm aEt
    exact(Sr.2 h2).perm (aEt (l₁:=[_]))
   have e0:#[Value.func (.yield (w.heap.size+1)) #[] #[]]++lb.toArray=(Value.func (.yield (w.heap.size+1)) #[] #[]::lb).toArray:=by simp
   rw[e0]
   refine(hd W1 hs4).mono ?_
   rintro e w3 ⟨v,Γ',rfl,⟨Γ2,hr⟩,hpost⟩
   -- the post over the parted chunks
   have flat:∀(s:LoopState) (pe:Option Code),Dj (Γa++[all (Jg (w.heap.size+1) L .ready none::Γc)]) [all (Jg (w.heap.size+1) L s pe::Γ2)] W1 w3→Dj C.Γ0 (Jg (w.heap.size+1) L s pe::dfr w.heap.size::Γ2) C.w0 w3:=fun s pe hpost=>by
    have f1:Dj (Γa++(Jg (w.heap.size+1) L .ready none::Γc)) (Jg (w.heap.size+1) L s pe::Γ2) W1 w3:=by
     have eo:∀g,g∈owns (Γa++[all (Jg (w.heap.size+1) L .ready none::Γc)])↔g∈owns (Γa++(Jg (w.heap.size+1) L .ready none::Γc)):=fun g=>by rw[Dt,Dt,aFi,aFi];simp[owns,all]
     have er:∀g,g∈reads (Γa++[all (Jg (w.heap.size+1) L .ready none::Γc)])↔g∈reads (Γa++(Jg (w.heap.size+1) L .ready none::Γc)):=fun g=>by rw[Ew,Ew,aFi,aFi];simp[reads,all]
     refine⟨by simpa using Sr.1 hpost.sat,hpost.keeps.mono fun g _ hg=>(eo g).1 hg,fun g hg hl=>(eo g).1 (hpost.own g (by simpa[owns,all]using hg) hl),fun g hg hl=>?_⟩
     exact(hpost.rd g (by simpa[reads,all]using hg) hl).imp (eo g).1 (er g).1
    have f2:=q3.trans (f1.frame q3.sat)
    exact f2.perm (List.Perm.cons _ (aEt (l₂:=[dfr w.heap.size])))
   rcases hr with⟨rfl,hR⟩|⟨rfl,hR⟩
   · have f:=flat _ _ hpost
     have hl:w3.heap[w.heap.size+1]?=some (.loop {L with state:= .ready,pending:=none}):=f.sat.each _ (aEd ..)
     refine⟨none,_,run_endLoop hl (by simp),?_⟩
     refine k1 w.heap.size Γ2 hR _ _ ⟨ha.size,by simp[mark,ha.defers],fun t v ht=>ha.sees t v ht⟩ ?_
     have:=f.trans (Qq (c':=Jg (w.heap.size+1) L .exhausted none) f.sat rfl rfl rfl (World.putObj_heap_same (Array.getElem?_eq_some_iff.1 hl).1))
     exact(this.perm (aEt (l₁:=[_]))).drop
   · have f:=flat _ _ hpost
     have hl:w3.heap[w.heap.size+1]?=some (.loop {L with state:= .done,pending:=some .ret}):=f.sat.each _ (aEd ..)
     refine⟨some .ret,_,run_endLoop hl (by simp),wpIn_ret ?_⟩
     refine k2 w.heap.size Γ2 hR _ _ ⟨ha.size,by simp[mark,ha.defers],fun t v ht=>ha.sees t v ht⟩ ?_
     have:=f.trans (Qq (c':=Jg (w.heap.size+1) L .exhausted (some .ret)) f.sat rfl rfl rfl (World.putObj_heap_same (Array.getElem?_eq_some_iff.1 hl).1))
     exact(this.perm (aEt (l₁:=[_]))).drop
def sO:Cb→Nat→Nat×Value
  |[],k=>(k,undef)
  |(d,v)::r,k=>bif Nat.beq d k then(d,v)else sO r k
def gO:List Ai→Nat→Ai
  |[],_=>all []
  |c::_,0=>c
  |_::r,n+1=>gO r n
section
variable{P:Program}{C:Cx}{ρ ρ':Cb}{Γ Γ' Γ1 Δ:List Ai}{Q:Exit→Act→World→Prop}{ops:Array Oper}{rest:List Oper}{o:Oper}{v:Value}{d n:Nat}{f:FuncId}{vs:List Value}{R:Value→List Ai→Prop}{xs:List Operand}{ts:Array TypeId}{K:Act→World→Prop}{nf:Nat→Bool}
theorem zQ:∀{xs:List Operand} {us:List Value},evs ρ xs=some us→us.length=xs.length
  | [],us,h=>by
    unfold evs at h
    cases h;rfl
  | x ::r,us,h=>by
    unfold evs at h
    split at h
    · rename_i h1 h2
      cases h
      rw[List.length_cons,List.length_cons,zQ h2]
    ·cases h
theorem Rd.bd{t:TypeId}{parts:List (Nat×Operand)}{us:List Value}(cells:List Value)(ho:o.op= .build t parts.toArray:=by rfl)(hv:evs ρ (parts.map (·.2))=some us:=by rfl)(h:P.built t ((parts.map (·.1)).zip us)=some cells.toArray:=by kernel_rfl):Rd P o ρ Γ (.agg cells.toArray):=by
  have hl:=zQ hv
  rw[aEg]at hl
  exact Rd.build (vs:=(parts.map (·.1)).zip us) ho (by rw[hv,List.map_snd_zip (by rw[aEg,hl];exact aEu _)]) (by rw[List.map_fst_zip (by rw[aEg,hl];exact aEu _)]) h
theorem bA{p q:Prop}(h:p)(e:p→q:=by intro h;simp only[aGh,aGn,aFr,aFd,aFm,aGa]at h;exact h):q:=e h
theorem gg{p q:Prop}(h:q)(e:q→p:=by intro h;first|(simp[h];done)|(simp[h];omega)):p:=e h
theorem gg2{p q r:Prop}(h:q)(i:r)(e:q→r→p:=by intro h i;first|(simp[h,i];done)|(simp[h,i];omega)):p:=e h i
theorem gg3{p q r s:Prop}(h:q)(i:r)(j:s)(e:q→r→s→p:=by intro h i j;first|(simp[h,i,j];done)|(simp[h,i,j];omega)):p:=e h i j
section
variable{T:Tel}{l:List Oper}{Θ:List Ai}{G:Act→World→Prop}{ms:List Fe}{N:Uc}{i:Nat}{deps:List Nat}
theorem Da [Kc P nf](is:List Nat)(hc:aMa P f vs Γ1 R)(k:∀v Γ',R v Γ'→(∀w,oks (Γ'++Δ) w→oks Θ w)∧Dw P T l Θ G ms C ((d,v)::ρ) (Γ'++Δ) [])(ho:l[i]?=some o:=by rfl)(hg:o.guard=none:=by rfl)(hd:o.dst=some d:=by rfl)(hn:Nat.blt d C.n=true:=by rfl)(hp:o.op= .call {callee:= .value (.func f),args:=xs.toArray,argTypes:=ts}:=by rfl)(hv:evs ρ xs=some vs:=by rfl)(hf:nf f=true:=by rfl)(hpl:Te (flat N++Γ) is=some (Γ1,Δ):=by rfl)(hT:T i=none:=by rfl):Dw P T l Θ G (⟨i,deps,5⟩::ms) C ρ Γ N:=Fw.call is ho hg hd hn (Ent.fc hp hv hf) hpl hc k hT
theorem Fw.qf [Kc P nf](hc:aMa P f vs Γ1 (fun v' _=>v'=v))(hs:∀w,oks (avail N deps++Γ) w→oks Γ1 w)(k:Dw P T l Θ G ms C ((d,v)::ρ) Γ N)(ho:l[i]?=some o:=by rfl)(hg:grd l.toArray ρ o=some true:=by rfl)(hd:o.dst=some d:=by rfl)(hn:Nat.blt d C.n=true:=by rfl)(hp:o.op= .call {callee:= .value (.func f),args:=xs.toArray,argTypes:=ts}:=by rfl)(hv:evs ρ xs=some vs:=by rfl)(hf:nf f=true:=by rfl)(hq:owns Γ1=[]:=by rfl)(hT:T i=none:=by rfl):Dw P T l Θ G (⟨i,deps,3⟩::ms) C ρ Γ N:=gQ ho hg hd hn (Ent.fc hp hv hf) hc hq hs k hT
theorem Fw.tf [Kc P nf](hc:aMa P f vs Γ1 R)(hs:∀w,oks (avail N deps++Γ) w→oks Γ1 w)(hr:∀v Γ',R v Γ'→reads Γ'=[])(k:∀v Γ',R v Γ'→Dw P T l Θ G ms C ((d,v)::ρ) Γ ((i,Γ')::N))(ho:l[i]?=some o:=by rfl)(hg:o.guard=none:=by rfl)(hd:o.dst=some d:=by rfl)(hn:Nat.blt d C.n=true:=by rfl)(hnew:N.all (fun m=> !Nat.beq m.1 i)=true:=by rfl)(hp:o.op= .call {callee:= .value (.func f),args:=xs.toArray,argTypes:=ts}:=by rfl)(hv:evs ρ xs=some vs:=by rfl)(hf:nf f=true:=by rfl)(hq:owns Γ1=[]:=by rfl)(hT:T i=some (tQ R):=by rfl):Dw P T l Θ G (⟨i,deps,4⟩::ms) C ρ Γ N:=IX ho hg hd hn hnew (Ent.fc hp hv hf) hc hq hs hr hT k
theorem Es{t e:TypeId}{size bytes len:Nat}{zs:List Value}{parts:List (Nat×Operand)}(us:List Value)(k:∀b,Dw P T l Θ G ms C ((d, .slice (some ⟨b,0,none⟩) len len)::ρ) Γ ((i,[row e size (some ⟨b,0,none⟩) len len us])::N))(ho:l[i]?=some o:=by rfl)(hg:o.guard=none:=by rfl)(hd:o.dst=some d:=by rfl)(hn:Nat.blt d C.n=true:=by rfl)(hnew:N.all (fun m=> !Nat.beq m.1 i)=true:=by rfl)(hp:o.op= .buildSlice t len parts.toArray:=by rfl)(ht:Ci P t e size bytes zs:=by exact inferInstance)(hv:evs ρ (parts.map (·.2))=some vs:=by rfl)(hi:parts.map (·.1)=List.range' 0 len:=by rfl)(hlen:Nat.blt 0 len=true:=by rfl)(hsm:Nat.ble (len*size) 16777216=true:=by rfl)(hsz:vs.all (fun v=>Nat.beq v.cells.size size)=true:=by rfl)(hu:(vs.flatMap fun v=>v.cells.toList)=us:=by rfl):Dw P T l Θ G (⟨i,deps,2⟩::ms) C ρ Γ N:=Fw.mk ho hg hd hn hnew (UN hp ht hv hi hlen hsm hsz hu) (by rintro _ _ ⟨b,rfl,rfl⟩;exact k b)
end
theorem Eg{t e:TypeId}{size bytes len:Nat}{zs:List Value}{parts:List (Nat×Operand)}(us:List Value)(k:∀b,To C ((d, .slice (some ⟨b,0,none⟩) len len)::ρ) (row e size (some ⟨b,0,none⟩) len len us::Γ) (wpList P ops Q rest))(hg:grd ops ρ o=some true:=by rfl)(hd:o.dst=some d:=by rfl)(hn:Nat.blt d C.n=true:=by rfl)(hp:o.op= .buildSlice t len parts.toArray:=by rfl)(ht:Ci P t e size bytes zs:=by exact inferInstance)(hv:evs ρ (parts.map (·.2))=some vs:=by rfl)(hi:parts.map (·.1)=List.range' 0 len:=by rfl)(hlen:Nat.blt 0 len=true:=by rfl)(hsm:Nat.ble (len*size) 16777216=true:=by rfl)(hsz:vs.all (fun v=>Nat.beq v.cells.size size)=true:=by rfl)(hu:(vs.flatMap fun v=>v.cells.toList)=us:=by rfl):To C ρ Γ (wpList P ops Q (o::rest)):=Jmk hg hd hn (UN hp ht hv hi hlen hsm hsz hu) (by rintro _ _ ⟨b,rfl,rfl⟩;exact k b)
structure Bq(Γ:List Ai)(b:Nat)(cs:List Value)(t:Nat):Prop where
  h:∃i:Nat,Γ[i]?=some (box b cs t)
theorem Gf{E:List Ai}{fn:Func}{ex:Exit}{t b:Nat}{ty ty':TypeId}{cs:List Value}(is:List Nat)(hres:fn.results=#[.cell t ty]) [ht:Eb P ty n](h:R (.agg cs.toArray) Δ)(hpl:Te Γ is=some (Δ,E):=by rfl)(hex:ex= .ret∨ex= .normal:=by first|exact .inl rfl|exact .inr rfl)(hv:look ρ t=some (.pointer (some ⟨b,0,none⟩)):=by rfl)(hi:Bq Γ b cs ty':=by(try dsimp only[List.append,List.set,List.eraseIdx,List.cons_append,List.nil_append,iB,iC,Yc,Yd,List.any,Nat.beq,cond,Bool.or]);exact⟨_,Bx.h⟩)(hl:cs.length=n:=by rfl)(hds:C.ds=[]:=by rfl):To C ρ Γ (bodyPost P fn (Fin C R) ex):=by
  obtain⟨i,hi⟩:=hi.h
  exact Tm is hpl hex hres hv hi ht hl h hds
def Mb(C:Cx)(ρ:Cb)(Γ:List Ai)(d:Nat)(e:Bool):Act→World→Prop:=fun a w=>∃t,t=e∧Has C.n C.ds ((d, .bool t)::ρ) a∧Dj C.Γ0 Γ C.w0 w
theorem Nk{l:List Oper}(ks:List Nat)(d:Nat)(e:Bool)(h:To C ρ Γ (wpList P ops (Exit.then (Mb C ρ' Γ' d e) Q) l))(k:To C ((d, .bool e)::ρ') Γ' K)(hρ:ks.map (sO ρ)=ρ':=by(try dsimp only[List.map,sO,Nat.beq,cond]);(try exact rfl))(hΓ:Γ=Γ':=by(try dsimp only[List.append,List.set,List.eraseIdx,List.cons_append,List.nil_append,iB,iC,Yc,Yd,List.any,Nat.beq,cond,Bool.or]);(try exact rfl)):To C ρ Γ (wpList P ops (Exit.then K Q) l):=by
  subst hΓ
  refine cK (T:=Bool) (fun t=>((d, .bool t)::ρ',Γ)) (fun t=>t=e) h fun t ht=>?_
  subst ht
  exact k
theorem Gg{t e:Bool}(ht:look ρ d=some (.bool t))(hp:t=e)(hs:Xj ρ ρ':=by repeat first|exact trivial|refine⟨rfl,?_⟩)(hg:Γ'=Γ:=by rfl):To C ρ Γ (Mb C ρ' Γ' d e):=Jhe (F:=fun t=>((d, .bool t)::ρ',Γ')) (p:=fun t=>t=e) t hp ⟨ht,hs⟩ hg
theorem Lf{c:Code}{I':Nat→Cb→List Ai→Prop}{m0:Nat}(I:(Nat→Nat×Value)→(Nat→Ai)→Nat→Cb→List Ai→Prop)(h0:I (sO ρ) (gO Γ) m0 ρ' Γ∧Xj ρ ρ')(round:∀m ρ Γ,I' m ρ Γ→To C ρ Γ (c.wp P (Exit.then (Za C I' m) Q)))(hI:I (sO ρ) (gO Γ)=I':=by(try dsimp only[sO,gO,List.append,List.set,List.eraseIdx,List.cons_append,List.nil_append,iB,iC,Yc,Yd,List.any,Nat.beq,cond,Bool.or]);(try exact rfl)):To C ρ Γ ((Code.loop c).wp P Q):=Ot ρ' h0.2 (To.loop I' m0 (hI▸h0.1) round)
def Pm(Γ Γ':List Ai):Prop:=∃Δ,Γ.Perm (Γ'++Δ)
def Pk(c:Ai)(Γ Γ':List Ai):Prop:=Γ.Perm (c::Γ')
theorem aAa:Pm Γ []:=⟨Γ,List.Perm.refl _⟩
theorem UU{c:Ai}:Pk c (c::Γ) Γ:=List.Perm.refl _
theorem Pk.zs{c e:Ai}(h:Pk c Γ Γ1):Pk c (e::Γ) (e::Γ1):=(List.Perm.cons e h).trans (aFc c e Γ1)
theorem aAb{c:Ai}(h:Pk c Γ Γ1)(k:Pm Γ1 Γ'):Pm Γ (c::Γ'):=by
  obtain⟨Δ,k⟩:=k
  exact⟨Δ,h.trans (List.Perm.cons c k)⟩
theorem JN(hp:Pm Γ Γ')(k:To C ρ Γ' K):To C ρ Γ K:=by
  obtain⟨Δ,hp⟩:=hp
  exact To.perm hp k.drop
theorem Pm.go(h:Pm Γ Γ':=by(try dsimp only[gO,List.append,List.set,List.eraseIdx,List.cons_append,List.nil_append,iB,iC,Yc,Yd,List.any,Nat.beq,cond,Bool.or]);repeat first|exact aAa|(apply aAb;focus (first|with_reducible ((repeat first|exact UU|apply Pk.zs);done)|((repeat first|exact UU|apply Pk.zs);done)))):Pm Γ Γ':=h
theorem Hu{I:Nat→Cb→List Ai→Prop}{m k:Nat}(h:I k ρ' Γ∧Xj ρ ρ')(hk:k<m:=by exact om):To C ρ Γ (Za C I m):=Vb k hk h
theorem Cg{I:Nat→Cb→List Ai→Prop}{m k:Nat}(h:I k ρ' Γ'∧Xj ρ ρ')(hk:k<m:=by exact om)(hp:Pm Γ Γ':=by exact Pm.go):To C ρ Γ (Za C I m):=JN hp (Vb k hk h)
theorem Lv{T:Type}{F:T→Cb×List Ai}{p:T→Prop}(t:T)(hp:p t)(hs:Xj ρ (F t).1:=by exact sb)(hg:Pm Γ (F t).2:=by dsimp only;exact Pm.go):To C ρ Γ (fun a w=>∃t,p t∧Has C.n C.ds (F t).1 a∧Dj C.Γ0 (F t).2 C.w0 w):=JN hg (Jhe t hp hs rfl)
theorem Cw{c:Code}{I':Nat→Cb→List Ai→Prop}{m0:Nat}(I:(Nat→Nat×Value)→(Nat→Ai)→Nat→Cb→List Ai→Prop)(h0:I (sO ρ) (gO Γ) m0 ρ' Γ'∧Xj ρ ρ')(round:∀m ρ Γ,I' m ρ Γ→To C ρ Γ (c.wp P (Exit.then (Za C I' m) Q)))(hI:I (sO ρ) (gO Γ)=I':=by(try dsimp only[sO,gO,List.append,List.set,List.eraseIdx,List.cons_append,List.nil_append,iB,iC,Yc,Yd,List.any,Nat.beq,cond,Bool.or]);(try exact rfl))(hp:Pm Γ Γ':=by exact Pm.go):To C ρ Γ ((Code.loop c).wp P Q):=JN hp (Ot ρ' h0.2 (To.loop I' m0 (hI▸h0.1) round))
theorem To.nm(k:To C ρ Γ' K)(h:Γ=Γ':=by(try dsimp only[List.append,List.set,List.eraseIdx,List.cons_append,List.nil_append,iB,iC,Yc,Yd,List.any,Nat.beq,cond,Bool.or]);(try exact rfl)):To C ρ Γ K:=h▸k
end
end Go.Sep

/- Merged out of Fb, Dg0, Dg1, Dg2 by merge.py. Own text. -/
import Derived.Test.YtihgdnjkofpgiaaGreatDoorYa
import Derived.Lib.ConvBytes
import Derived.Laws.IdiomCopy
set_option linter.unusedVariables false
set_option linter.unusedSimpArgs false
set_option maxHeartbeats 2000000
set_option maxRecDepth 100000
namespace Go.Sep
open Go.RowKit Go.Flow Go.Mem Go.Proofs.YtihgdnjkofpgiaaGreatDoor
def byL(s:ByteArray):List Nat:=s.data.toList.map UInt8.toNat
theorem byL_len(s:ByteArray):(byL s).length=s.size:=by unfold byL;rw[List.length_map];rfl
theorem byL_cells(s:ByteArray):(byL s).flatMap encY=Lib.byteCells s.data.toList:=by
 unfold byL Lib.byteCells
 induction s.data.toList with
 |nil=>rfl
 |cons a r ih=>rw[List.map_cons,List.flatMap_cons,ih];rfl
theorem Mk.bytesOf{P:Program}{o:Oper}{ρ:Slots}{Γ:List Chunk}{x:Operand}{src dst e:TypeId}{s:ByteArray}(ho:o.op= .convert src dst x)(hs:P.underlying src=some .string)(hd:P.underlying dst=some (.slice e))(he:P.underlying e=some (.int .u8))(hx:ev ρ x=some (.string s)):
    Mk P o ρ Γ (fun v N=>∃b cap,v= .slice (some ⟨b,0,none⟩) (byL s).length cap∧N=[ros encY (some ⟨b,0,none⟩) (byL s)]∧(byL s).length≤cap):=fun a w ha _=>by
 have hrun:=Lib.run_convert_string_bytes (P:=P) w src dst e s hs hd he
 have hsz:s.size=s.data.toList.length:=by show s.data.size=_;rw[Array.length_toList]
 have hge:=grownCap_ge w s.size 0 e
 refine⟨.slice (some ⟨w.heap.size,0,none⟩) s.size (grownCap w s.size 0 e),[ros encY (some ⟨w.heap.size,0,none⟩) (byL s)],Lib.bytesWorld w e s,?_,⟨w.heap.size,grownCap w s.size 0 e,by rw[byL_len],rfl,by rw[byL_len];simpa using hge⟩,?_⟩
 · unfold execOp
   simp only[ho,ha.eval hx,Sem.run_bind,hrun,Result.andThen_ok,Sem.run_pure]
 · have hnew:∀g∈reads [ros encY (some ⟨w.heap.size,0,none⟩) (byL s)],g=w.heap.size:=fun g hg=>by
     obtain⟨c,hc,hgc⟩:=mem_reads.1 hg
     rw[List.mem_singleton.1 hc]at hgc
     unfold ros ro at hgc
     cases h:(byL s).flatMap encY with
     |nil=>rw[h]at hgc;simp[rblks]at hgc
     |cons u r=>rw[h]at hgc;simpa[rblks,blks]using hgc
   refine⟨⟨fun c hc=>?_,by simp[owns,ros,ro],by simp[owns,ros,ro]⟩,⟨?_,?_,?_,?_,fun i hi _=>Lib.bytesWorld_at_old w e s i hi,?_⟩,by simp[owns,ros,ro],fun g hg hl=>by rw[hnew g hg]at hl;exact absurd hl (Nat.lt_irrefl _)⟩
   · rw[List.mem_singleton.1 hc]
     refine .inr ⟨w.heap.size,0,rfl,fun j v hv=>?_⟩
     rw[byL_cells]at hv
     have hj:j<s.data.toList.length:=by
      have:=(List.getElem?_eq_some_iff.1 hv).1
      simpa[Lib.byteCells]using this
     rw[Nat.zero_add,Lib.bytesWorld_cell w e s j (by rw[hsz];exact hj)]
     rw[←hv]
     simp[Lib.byteCells,List.getD,gge hj]
   ·simp[Lib.bytesWorld,World.freeze,World.alloc,World.drew,-World.alloc_eq,-World.drew_eq]
   ·simp[Lib.bytesWorld,World.freeze,World.alloc,World.drew,-World.alloc_eq,-World.drew_eq]
   ·simp[Lib.bytesWorld,World.freeze,World.alloc,World.drew,-World.alloc_eq,-World.drew_eq]
   ·rw[Lib.bytesWorld_size];omega
   ·simp[Lib.bytesWorld,World.freeze,World.alloc,World.drew,World.drawn,-World.alloc_eq,-World.drew_eq]
def Un(k:IntKind):Prop:=k= .u8∨k= .u32∨k= .u64
theorem Un.wrap{k:IntKind}(h:Un k)(x:Int):∃m:Nat,k.wrap x=(m:Int):=by
 rcases h with rfl|rfl|rfl
 ·exact⟨(IntKind.u8.wrap x).toNat,by rw[IntKind.wrap_u8];omega⟩
 ·exact⟨(IntKind.u32.wrap x).toNat,by rw[IntKind.wrap_u32];omega⟩
 ·exact⟨(IntKind.u64.wrap x).toNat,by rw[IntKind.wrap_u64];omega⟩
def RdE(P:Program)(o:Oper)(ρ:Slots)(Γ:List Chunk)(k:IntKind):Prop:=∃m:Nat,Rd P o ρ Γ (.int k (m:Int))
section
variable{P:Program}{o:Oper}{ρ:Slots}{Γ:List Chunk}{x y:Operand}{t t':TypeId}{k kb:IntKind}{a b:Int}
theorem RdE.add(ho:o.op= .binOp .add t x y t')(hx:ev ρ x=some (.int k a))(hy:ev ρ y=some (.int k b))(hk:Un k):RdE P o ρ Γ k:=by
 obtain⟨m,hm⟩:=hk.wrap (a+b)
 exact⟨m,Rd.bin ho hx hy fun w=>by simp[eqGuard,binOp,Op.intArith,hm]⟩
theorem RdE.sub(ho:o.op= .binOp .sub t x y t')(hx:ev ρ x=some (.int k a))(hy:ev ρ y=some (.int k b))(hk:Un k):RdE P o ρ Γ k:=by
 obtain⟨m,hm⟩:=hk.wrap (a-b)
 exact⟨m,Rd.bin ho hx hy fun w=>by simp[eqGuard,binOp,Op.intArith,hm]⟩
theorem RdE.and(ho:o.op= .binOp .and t x y t')(hx:ev ρ x=some (.int k a))(hy:ev ρ y=some (.int k b))(hk:Un k):RdE P o ρ Γ k:=by
 obtain⟨m,hm⟩:=hk.wrap (BitVec.ofInt k.bits a&&& BitVec.ofInt k.bits b).toNat
 exact⟨m,Rd.bin ho hx hy fun w=>by simp only[eqGuard,binOp,Op.intBits,hm];simp⟩
theorem RdE.or(ho:o.op= .binOp .or t x y t')(hx:ev ρ x=some (.int k a))(hy:ev ρ y=some (.int k b))(hk:Un k):RdE P o ρ Γ k:=by
 obtain⟨m,hm⟩:=hk.wrap (BitVec.ofInt k.bits a|||BitVec.ofInt k.bits b).toNat
 exact⟨m,Rd.bin ho hx hy fun w=>by simp only[eqGuard,binOp,Op.intBits,hm];simp⟩
theorem RdE.xor(ho:o.op= .binOp .xor t x y t')(hx:ev ρ x=some (.int k a))(hy:ev ρ y=some (.int k b))(hk:Un k):RdE P o ρ Γ k:=by
 obtain⟨m,hm⟩:=hk.wrap (BitVec.ofInt k.bits a^^^BitVec.ofInt k.bits b).toNat
 exact⟨m,Rd.bin ho hx hy fun w=>by simp only[eqGuard,binOp,Op.intBits,hm];simp⟩
theorem RdE.shl(ho:o.op= .binOp .shl t x y t')(hx:ev ρ x=some (.int k a))(hy:ev ρ y=some (.int kb b))(hk:Un k)(h0:0≤b):RdE P o ρ Γ k:=by
 obtain⟨m,hm⟩:=hk.wrap (a*2^min b.toNat k.bits)
 exact⟨m,Rd.bin ho hx hy fun w=>by simp only[eqGuard,binOp,Op.shift,if_neg (Int.not_lt.2 h0),hm];simp⟩
theorem RdE.shr{n:Nat}(ho:o.op= .binOp .shr t x y t')(hx:ev ρ x=some (.int k (n:Int)))(hy:ev ρ y=some (.int kb b))(h0:0≤b):RdE P o ρ Γ k:=by
 have h1:0≤(n:Int).fdiv (2^min b.toNat k.bits):=Int.fdiv_nonneg (by omega) (by have:(0:Int)<2^min b.toNat k.bits:=Int.pow_pos (by decide);omega)
 exact⟨((n:Int).fdiv (2^min b.toNat k.bits)).toNat,by rw[Int.toNat_of_nonneg h1];exact Rd.bin ho hx hy fun w=>by simp only[eqGuard,binOp,Op.shift,if_neg (Int.not_lt.2 h0)];simp⟩
theorem RdE.cpl(ho:o.op= .unOp .xor t x)(hx:ev ρ x=some (.int k b))(hk:Un k):RdE P o ρ Γ k:=by
 obtain⟨m,hm⟩:=hk.wrap (BitVec.ofInt k.bits (if k.signed then-1 else k.max)^^^BitVec.ofInt k.bits b).toNat
 refine⟨m,fun s w ha _=>?_⟩
 unfold execOp
 simp only[ho,ha.eval hx,Op.unary,Op.intBits,hm];rfl
theorem RdE.conv{s d:TypeId}{k':IntKind}{ds:TypeDesc}(ho:o.op= .convert s d x)(hx:ev ρ x=some (.int k a))(hs:P.underlying s=some ds)(hd:P.underlying d=some (.int k'))(hk:Un k'):RdE P o ρ Γ k':=by
 obtain⟨m,hm⟩:=hk.wrap a
 refine⟨m,fun s w ha _=>?_⟩
 unfold execOp
 simp[ho,ha.eval hx,convert,run_underlying hs,run_underlying hd,Conv.intToInt,hm]
end
def ShK(kd:Nat→IntKind)(n:Nat)(cs:List Value):Prop:=cs.length=n∧∀i,i<n→∃m:Nat,cs[i]?=some (.int (kd i) (m:Int))
theorem ShK.set{kd:Nat→IntKind}{n i:Nat}{cs:List Value}{k:IntKind}{m:Nat}(h:ShK kd n cs)(hk:kd i=k):ShK kd n (cs.set i (.int k (m:Int))):=⟨by rw[List.length_set];exact h.1,fun j hj=>by
 rw[List.getElem?_set]
 by_cases e:i=j
 · subst e
   rw[if_pos rfl,if_pos (by rw[h.1];exact hj)]
   exact⟨m,by rw[hk]⟩
 ·rw[if_neg e];exact h.2 j hj⟩
theorem ShK.at{kd:Nat→IntKind}{n i:Nat}{cs:List Value}{k:IntKind}(h:ShK kd n cs)(hi:i<n)(hk:kd i=k):∃m:Nat,cs[i]?=some (.int k (m:Int)):=by
 obtain⟨m,hm⟩:=h.2 i hi
 exact⟨m,by rw[hm,hk]⟩
theorem ShK.one{kd:Nat→IntKind}{n:Nat}{cs:List Value}(h:ShK kd n cs):cs.all (·.oneCell')=true:=List.all_eq_true.2 fun v hv=>by
 obtain⟨i,hi⟩:=List.getElem?_of_mem hv
 obtain⟨m,hm⟩:=h.2 i (by have:=(List.getElem?_eq_some_iff.1 hi).1;rw[h.1]at this;exact this)
 rw[hi]at hm
 cases hm;rfl
theorem ShK.rep(k:IntKind)(n:Nat):ShK (fun _=>k) n (List.replicate n (.int k 0)):=⟨List.length_replicate,fun i hi=>⟨0,by rw[List.getElem?_replicate,if_pos hi];rfl⟩⟩
theorem ShK.fn{k:IntKind}{n:Nat}{cs:List Value}(h:ShK (fun _=>k) n cs):∃f:Nat→Nat,cs=(List.range n).map fun i=>Value.int k ((f i:Nat):Int):=by
 refine⟨fun i=>match cs[i]? with|some (.int _ m)=>m.toNat|_=>0,List.ext_getElem? fun i=>?_⟩
 by_cases hi:i<n
 · obtain⟨m,hm⟩:=h.2 i hi
   rw[List.getElem?_map,List.getElem?_range hi,hm]
   simp[hm]
 ·rw[List.getElem?_eq_none (by rw[h.1];omega),List.getElem?_eq_none (by rw[List.length_map,List.length_range];omega)]
section
variable{P:Program}{o:Oper}{ρ:Slots}{Γ:List Chunk}{x y z:Operand}
theorem list_set_self{α:Type}{l:List α}{i:Nat}{x:α}(h:l[i]?=some x):l.set i x=l:=by
 obtain⟨hi,e⟩:=List.getElem?_eq_some_iff.1 h
 rw[←e];exact List.set_getElem_self hi
theorem box_takesK{b off:Nat}{cs:List Value}{u:Value}{t:TypeId}(hl:off<cs.length):(box b cs t).takes b off [u] (box b (cs.set off u) t):=bt1 (Nat.ble_eq_true_of_le hl)
theorem Rd.sliceArr{t:TypeId}{n size b off lo hi:Nat}{k k':IntKind}(ho:o.op= .slice t x (some y) (some z) none)(ht:ArrTy P t n size)(hx:ev ρ x=some (.pointer (some ⟨b,off,none⟩)))(hy:ev ρ y=some (.int k (lo:Int)))(hz:ev ρ z=some (.int k' (hi:Int)))(h1:lo≤hi)(h2:hi≤n)(h3:lo<n):Rd P o ρ Γ (.slice (some ⟨b,off+lo*size,none⟩) (hi-lo) (n-lo)):=fun a w ha _=>by
 obtain⟨e,i,g1,g2,g3⟩:=ht
 unfold execOp
 simp[ho,ha.eval hx,ha.eval hy,ha.eval hz,Instr.sliceAt,run_underlying g1,Instr.slice,Instr.sliceBounds,Instr.sliceBound,asIntOf,h1,h2,sizeOf,typeInfo,g2,g3,Instr.sureAddr,Addr.add_mid]
 intro h;omega
theorem Rd.sliceArrLo{t:TypeId}{n size b off lo:Nat}{k:IntKind}(ho:o.op= .slice t x (some y) none none)(ht:ArrTy P t n size)(hx:ev ρ x=some (.pointer (some ⟨b,off,none⟩)))(hy:ev ρ y=some (.int k (lo:Int)))(h3:lo<n):Rd P o ρ Γ (.slice (some ⟨b,off+lo*size,none⟩) (n-lo) (n-lo)):=fun a w ha _=>by
 obtain⟨e,i,g1,g2,g3⟩:=ht
 have h4:¬n=lo:=by omega
 have h5:lo≤n:=by omega
 unfold execOp
 simp[ho,ha.eval hx,ha.eval hy,Instr.sliceAt,run_underlying g1,Instr.slice,Instr.sliceBounds,Instr.sliceBound,asIntOf,h4,h5,sizeOf,typeInfo,g2,g3,Instr.sureAddr,Addr.add_mid]
 done
end
theorem Ge.copyBox{P:Program}{o:Oper}{ρ:Slots}{Γ:List Chunk}{x y:Operand}{kd:Nat→IntKind}{N b off n cb q i j:Nat}{cs:List Value}{t dT sT e:TypeId}{B:Option Addr}{l:List Nat}(ho:o.op= .call {callee:= .builtin .copy,args:=#[x,y],argTypes:=#[dT,sT]})(hu:P.underlying dT=some (.slice e))(hz:(P.info? e).map (·.size)=some 1)
    (hx:ev ρ x=some (.slice (some ⟨b,off,none⟩) n cb)) (hy:ev ρ y=some (.slice B l.length q)) (hi:Γ[i]?=some (box b cs t)) (hs:Γ[j]?=some (ros encY B l)) (hc:ShK kd N cs) (hf:off+n≤N) (hk:∀m,off≤m→m<off+n→kd m= .u8):
    Ge P o ρ Γ (fun v Γ'=>∃(cs':List Value) (m:Nat),v= .int .i64 (m:Int)∧Γ'=Γ.set i (box b cs' t)∧ShK kd N cs'∧m≤l.length∧m≤n∧(m=l.length∨m=n)):=fun a w ha hG=>by
 have hb:w.heap[b]?=some (.cells cs.toArray t (0,0)):=hG.each _ (mog hi)
 have hsrc:Src w B (l.flatMap encY):=hG.each _ (mog hs)
 have hlen:(l.flatMap encY).length=l.length:=(Enc.flat_len encY_ok l).trans (Nat.mul_one _)
 rcases Nat.eq_zero_or_pos (Nat.min l.length n)with h0|h0
 · have hr:=run_copy_none (P:=P) w dT sT o.type e (some ⟨b,off,none⟩) B n cb l.length q hu hz h0
   refine⟨.int .i64 0,Γ,w,?_,⟨cs,0,rfl,(list_set_self hi).symm,hc,Nat.zero_le _,Nat.zero_le _,by rcases Nat.le_total l.length n with h|h<;>simp[Nat.min_def]at h0<;>split at h0<;>omega⟩,Post.refl hG⟩
   unfold execOp
   simp only[ho,resolve,invoke,builtin,Sem.run_bind,Sem.run_pure,Result.andThen_ok,List.map_toArray,List.map_cons,List.map_nil,ha.eval hx,ha.eval hy,hr];rfl
 · rcases hsrc with h|⟨g,so,rfl,hr⟩
   · have:l.length=0:=by rw[←hlen,h];rfl
     rw[this]at h0;simp at h0
   · have hml:((l.flatMap encY).take (Nat.min l.length n)).length=Nat.min l.length n:=by rw[List.length_take,hlen];exact Nat.min_eq_left (Nat.min_le_left ..)
     have hone:∀v∈(l.flatMap encY).take (Nat.min l.length n),v.oneCell'=true∧∃m:Nat,v= .int .u8 (m:Int):=fun v hv=>by
      have hv:=List.mem_of_mem_take hv
      obtain⟨z,_,hz⟩:=List.mem_flatMap.1 hv
      rw[encY,List.mem_singleton]at hz
      exact⟨by rw[hz];rfl,z,hz⟩
     have hmn:Nat.min l.length n≤n:=Nat.min_le_right ..
     have hin:∀m,m<(l.flatMap encY|>.take (Nat.min l.length n)).length→off+m<cs.length:=fun m hm=>by rw[hml]at hm;rw[hc.1];omega
     have hrun:=run_copy_cells (P:=P) w dT sT o.type e b off n cb ⟨g,so,none⟩ l.length q ((l.flatMap encY).take (Nat.min l.length n)) hu hz hml
      (fun m v hv=>by
       rw[List.getElem?_take]at hv
       split at hv
       ·rw[Addr.add_mid];exact hr m v hv
       ·cases hv)
      (fun m hm=>by simp[World.cell?,hb,gge (hin m hm)])
      (fun m hm=>by simp[World.frozen?,hb])
      (fun v hv=>(hone v hv).1)
     have hnew:=box_setCells (t:=t) (b:=b) ((l.flatMap encY).take (Nat.min l.length n)) off w cs hb (by rw[hml,hc.1];omega)
     have htk:(box b cs t).takes b off ((l.flatMap encY).take (Nat.min l.length n)) (box b (over cs off ((l.flatMap encY).take (Nat.min l.length n))) t):=box_takes (by rw[hml];exact Nat.ble_eq_true_of_le (by rw[hc.1];omega)) rfl
     obtain⟨_,h2⟩:=Post.takes htk ((hG.perm (perm_eraseIdx hi)).left (Γ:=[box b cs t]))
     refine⟨_,_,_,?_,⟨over cs off ((l.flatMap encY).take (Nat.min l.length n)),_,rfl,rfl,?_,Nat.min_le_left ..,Nat.min_le_right ..,(Nat.le_total l.length n).imp Nat.min_eq_left Nat.min_eq_right⟩,Post.set hi hG h2⟩
     · unfold execOp
       simp only[ho,resolve,invoke,builtin,Sem.run_bind,Sem.run_pure,Result.andThen_ok,List.map_toArray,List.map_cons,List.map_nil,ha.eval hx,ha.eval hy,hrun,hml];rfl
     · refine⟨?_,fun m hm=>?_⟩
       ·unfold over;simp only[lap,List.length_take,List.length_drop,hml,hc.1];omega
       · unfold over
         by_cases h1:m<off
         ·rw[List.append_assoc,List.getElem?_append_left (by rw[List.length_take,hc.1];omega),List.getElem?_take,if_pos h1];exact hc.2 m hm
         · by_cases h2:m<off+Nat.min l.length n
           · rw[List.getElem?_append_left (by simp only[lap,List.length_take,hml,hc.1];omega),List.getElem?_append_right (by rw[List.length_take,hc.1];omega)]
             have h3:m-(cs.take off).length<((l.flatMap encY).take (Nat.min l.length n)).length:=by rw[hml,List.length_take,hc.1];omega
             obtain⟨_,z,hz⟩:=hone _ (List.getElem_mem h3)
             exact⟨z,by rw[gge h3,hz,hk m (by omega) (by omega)]⟩
           · rw[List.getElem?_append_right (by simp only[lap,List.length_take,hml,hc.1];omega),List.getElem?_drop]
             obtain⟨z,hz⟩:=hc.2 m hm
             refine⟨z,?_⟩
             rw[←hz]
             congr 1
             simp only[lap,List.length_take,hml,hc.1];omega
section
variable{C:Cx}{P:Program}{ρ:Slots}{Γ:List Chunk}{ops:Array Oper}{o:Oper}{rest:List Oper}{Q:Exit→Act→World→Prop}{d:Nat}{k:IntKind}
theorem To.rdE(hg:grd ops ρ o=some true)(hd:o.dst=some d)(hn:Nat.blt d C.n=true)(h:RdE P o ρ Γ k)(kk:∀m:Nat,To C ((d, .int k (m:Int))::ρ) Γ (wpList P ops Q rest)):To C ρ Γ (wpList P ops Q (o::rest)):=by
 obtain⟨m,hm⟩:=h
 exact To.rd hg hd hn hm (kk m)
end
theorem RdE.cell{P:Program}{o:Oper}{ρ:Slots}{Γ:List Chunk}{x:Operand}{ty t:TypeId}{b off i N:Nat}{cs:List Value}{kd:Nat→IntKind}{k:IntKind}(ho:o.op= .load ty x)(hx:ev ρ x=some (.pointer (some ⟨b,off,none⟩)))(ht:CellTy P ty)(hi:Γ[i]?=some (box b cs t))(hc:ShK kd N cs)(h:off<N)(hk:kd off=k):RdE P o ρ Γ k:=by
 obtain⟨m,hm⟩:=hc.at h hk
 exact⟨m,Rd.ld ho hx ht hi (bg1 hm)⟩
theorem RdE.roCell{P:Program}{o:Oper}{ρ:Slots}{Γ:List Chunk}{x:Operand}{ty:TypeId}{b off i N:Nat}{cs:List Value}{kd:Nat→IntKind}{k:IntKind}(ho:o.op= .load ty x)(hx:ev ρ x=some (.pointer (some ⟨b,off,none⟩)))(ht:CellTy P ty)(hi:Γ[i]?=some (ro (some ⟨b,0,none⟩) cs))(hc:ShK kd N cs)(h:off<N)(hk:kd off=k):RdE P o ρ Γ k:=by
 obtain⟨m,hm⟩:=hc.at h hk
 exact⟨m,Rd.ld ho hx ht hi (by
  have h1:=ro_gives (A:=some ⟨b,0,none⟩) (o:=off) (k:=1) (xs:=cs) (us:=[.int k (m:Int)]) (sub1 hm)
  have e:ofs (some ⟨b,0,none⟩)+off=off:=Nat.zero_add _
  rw[e]at h1
  exact h1)⟩
theorem RdE.indexV{P:Program}{o:Oper}{ρ:Slots}{Γ:List Chunk}{x y:Operand}{t e:TypeId}{n j:Nat}{k k':IntKind}{cs:List Value}(ho:o.op= .index t x y)(ht:P.underlying t=some (.array n e))(he:P.underlying e=some (.int k))(h1:(P.info? e).map (·.size)=some 1)(hx:ev ρ x=some (.agg cs.toArray))(hy:ev ρ y=some (.int k' (j:Int)))(hj:j<n)(hc:ShK (fun _=>k) n cs):RdE P o ρ Γ k:=by
 obtain⟨m,hm⟩:=hc.2 j hj
 refine⟨m,fun a w ha _=>?_⟩
 obtain⟨i,hi,h1⟩:=Option.map_eq_some_iff.1 h1
 unfold execOp
 simp[ho,ha.eval hx,ha.eval hy,Instr.index,asIntOf,run_underlying ht,sizeOf,typeInfo,hi,h1,part,isAgg,run_underlying he,hm]
 omega
section
variable{P:Program}{T:Nat→Option (World→Value→World→Prop)}{l:List Oper}{Θ:List Chunk}{Q:Act→World→Prop}{ms:List Meta}{C:Cx}{ρ:Slots}{Γ:List Chunk}{N:List (Nat×List Chunk)}{i:Nat}{deps:List Nat}{o:Oper}{d:Nat}{k:IntKind}
theorem Fw.freeE(ho:l[i]?=some o)(hg:grd l.toArray ρ o=some true)(hd:o.dst=some d)(hn:Nat.blt d C.n=true)(h:RdE P o ρ Θ k)(kk:∀m:Nat,FlowS P T l Θ Q ms C ((d, .int k (m:Int))::ρ) Γ N):FlowS P T l Θ Q (⟨i,deps,0⟩::ms) C ρ Γ N:=by
 obtain⟨m,hm⟩:=h
 exact Fw.free ho hg hd hn hm (kk m)
theorem Fw.rdE(ho:l[i]?=some o)(hg:grd l.toArray ρ o=some true)(hd:o.dst=some d)(hn:Nat.blt d C.n=true)(h:RdE P o ρ (avail N deps++Γ) k)(kk:∀m:Nat,FlowS P T l Θ Q ms C ((d, .int k (m:Int))::ρ) Γ N):FlowS P T l Θ Q (⟨i,deps,1⟩::ms) C ρ Γ N:=by
 obtain⟨m,hm⟩:=h
 exact Fw.rd ho hg hd hn hm (kk m)
end
theorem Rd.indexSl{P:Program}{o:Oper}{ρ:Slots}{Γ:List Chunk}{x y:Operand}{t e:TypeId}{size bytes:Nat}{zs:List Value}{b off n cap j:Nat}{k:IntKind}(ho:o.op= .indexAddr t x y)(hx:ev ρ x=some (.slice (some ⟨b,off,none⟩) n cap))(hy:ev ρ y=some (.int k j))(ht:SliceTy P t e size bytes zs)(hj:j<n):Rd P o ρ Γ (.pointer (some ⟨b,off+j*size,none⟩)):=Rd.indexS (A:=some ⟨b,off,none⟩) rfl ho hx hy ht hj
theorem sub8{cs:List Value}{a b c d e f g h:Value}(h0:cs[0]?=some a)(h1:cs[1]?=some b)(h2:cs[2]?=some c)(h3:cs[3]?=some d)(h4:cs[4]?=some e)(h5:cs[5]?=some f)(h6:cs[6]?=some g)(h7:cs[7]?=some h):sub cs 0 8=[a,b,c,d,e,f,g,h]:=by
 match cs,h0,h1,h2,h3,h4,h5,h6,h7 with
 | a'::b'::c'::d'::e'::f'::g'::h'::r,h0,h1,h2,h3,h4,h5,h6,h7=>
   cases h0;cases h1;cases h2;cases h3;cases h4;cases h5;cases h6;cases h7;rfl
theorem sh8{k:IntKind}(a b c d e f g h:Nat):ShK (fun _=>k) 8 [.int k (a:Int), .int k (b:Int), .int k (c:Int), .int k (d:Int), .int k (e:Int), .int k (f:Int), .int k (g:Int), .int k (h:Int)]:=⟨rfl,fun i hi=>by
 match i,hi with
 |0,_=>exact⟨a,rfl⟩
 |1,_=>exact⟨b,rfl⟩
 |2,_=>exact⟨c,rfl⟩
 |3,_=>exact⟨d,rfl⟩
 |4,_=>exact⟨e,rfl⟩
 |5,_=>exact⟨f,rfl⟩
 |6,_=>exact⟨g,rfl⟩
 |7,_=>exact⟨h,rfl⟩⟩
theorem Mk.makeC{P:Program}{o:Oper}{ρ:Slots}{Γ:List Chunk}{x y:Operand}{t e:TypeId}{n c:Nat}{kl kc:IntKind}(ho:o.op= .makeSlice t x y)(ht:SliceTy P t e 1 1 [.int .u8 0])(hx:ev ρ x=some (.int kl (n:Int)))(hy:ev ρ y=some (.int kc (c:Int)))(hnc:n≤c)(hc:c≤281474976710656):
    Mk P o ρ Γ (fun v N=>∃b,v= .slice (some ⟨b,0,none⟩) (List.replicate n (0:Nat)).length c∧N=[rows encY e 1 (some ⟨b,0,none⟩) c (List.replicate n (0:Nat))]):=fun a w ha _=>by
 obtain⟨it,zv,h2,h3,h4,h5,h6⟩:=ht.inf
 have hm:c≤maxLen:=by simp only[maxLen];omega
 have hr:=run_make (P:=P) w t e it zv ht.und h2 h3 kl kc n c (by omega) (by omega) (by rw[h5];omega) (by omega)
 simp only[Int.toNat_natCast,h4,h6]at hr
 have hcs:(madeCells #[Value.int .u8 0] (c*1)).toList=List.replicate c (.int .u8 0):=by
  rw[show#[Value.int .u8 0]=[Value.int .u8 0].toArray from rfl,madeCells_list _ _ rfl]
  induction c with
  |zero=>rfl
  |succ c _=>simp
 have hfl:∀m,(List.replicate m (0:Nat)).flatMap encY=List.replicate m (Value.int .u8 0):=fun m=>by
  induction m with
  |zero=>rfl
  |succ m ih=>rw[List.replicate_succ,List.flatMap_cons,ih];rfl
 have hheap:(w.alloc (.cells (madeCells #[Value.int .u8 0] (c*1)) e)).heap[w.heap.size]?=some (.cells (madeCells #[Value.int .u8 0] (c*1)) e (0,0)):=by simp[World.alloc,-World.alloc_eq]
 have hown:(rows encY e 1 (some ⟨w.heap.size,0,none⟩) c (List.replicate n (0:Nat))).holds (w.alloc (.cells (madeCells #[Value.int .u8 0] (c*1)) e)):=by
  show World.ownsRow _ 0 e 1 (.slice _ (List.replicate n (0:Nat)).length c) (List.replicate n (0:Nat)).length _
  rw[List.length_replicate,hfl]
  refine⟨by rw[List.length_replicate,Nat.mul_one], .inr ⟨w.heap.size,c,_,rfl,Nat.zero_le _,hheap,hnc,hm,?_,?_⟩⟩
  ·rw[←Array.length_toList,hcs,List.length_replicate,Nat.mul_one]
  ·rw[hcs,List.take_replicate,Nat.mul_one,Nat.min_eq_left hnc]
 refine⟨.slice (some ⟨w.heap.size,0,none⟩) n c,[rows encY e 1 (some ⟨w.heap.size,0,none⟩) c (List.replicate n (0:Nat))],w.alloc (.cells (madeCells #[Value.int .u8 0] (c*1)) e),?_,⟨w.heap.size,by rw[List.length_replicate],rfl⟩,⟨⟨fun z hz=>by rw[List.mem_singleton.1 hz];exact hown,by simp[owns,rows,row,blks],by simp[reads,rows,row]⟩,⟨rfl,rfl,rfl,?_,fun i hi _=>?_,Nat.le_refl _⟩,fun g hg hl=>?_,by simp[reads,rows,row]⟩⟩
 · unfold execOp
   simp only[ho,ha.eval hx,ha.eval hy,Sem.run_bind,hr,Result.andThen_ok,Sem.run_pure]
 ·simp[World.alloc,-World.alloc_eq]
 · have h7:w.heap.size≠i:=by omega
   simp[World.alloc,-World.alloc_eq,Array.getElem?_push,Ne.symm h7]
 ·simp[owns,rows,row,blks]at hg;omega
end Go.Sep
namespace Go.Proofs.YtihgdnjkofpgiaaGreatDoor
open Go.RowKit Go.Flow Go.Mem Go.Sep Go.In
def cKL:List Nat:=[1116352408,1899447441,3049323471,3921009573,961987163,1508970993,2453635748,2870763221,3624381080,310598401,607225278,1426881987,1925078388,2162078206,2614888103,3248222580,3835390401,4022224774,264347078,604807628,770255983,1249150122,1555081692,1996064986,2554220882,2821834349,2952996808,3210313671,3336571891,3584528711,113926993,338241895,666307205,773529912,1294757372,1396182291,1695183700,1986661051,2177026350,2456956037,2730485921,2820302411,3259730800,3345764771,3516065817,3600352804,4094571909,275423344,430227734,506948616,659060556,883997877,958139571,1322822218,1537002063,1747873779,1955562222,2024104815,2227730452,2361852424,2428436474,2756734187,3204031479,3329325298]
abbrev cKV:List Value:=cKL.map fun z:Nat=>Value.int .u32 (z:Int)
abbrev cstC:Chunk:=ro (some ⟨2,0,none⟩) cKV
theorem cK_sh:ShK (fun _=> .u32) 64 cKV:=⟨rfl,fun i hi=>by
 have:i<cKL.length:=hi
 exact⟨cKL[i],by rw[List.getElem?_map,gge this];rfl⟩⟩
def kdH(i:Nat):IntKind:=if i<8 then .u32 else if i<72 then .u8 else .u64
theorem kdH_w{i:Nat}(h:i<8):kdH i= .u32:=if_pos h
theorem kdH_b{i:Nat}(h:8≤i)(h2:i<72):kdH i= .u8:=by unfold kdH;rw[if_neg (by omega),if_pos h2]
theorem rotl_fn(x:Nat)(n:Int):
    Does Tryz.prog 238 [.int .u32 ((x:Nat):Int), .int .i64 n] [] (fun v Γ'=>∃m:Nat,v= .int .u32 (m:Int)∧Γ'=[]):=by
 refine Does.enter Tryz.func238 rfl Tryz.ntmps238 rfl (fun w0=>?_)
 refine To.z 8 ?_
 refine To.rdE rfl rfl rfl (RdE.conv rfl rfl Tryz.underlying3 Tryz.underlying215 (.inr (.inr rfl))) (fun u7=>?_)
 refine To.rdE rfl rfl rfl (RdE.and rfl rfl rfl (.inr (.inr rfl))) (fun u8=>?_)
 refine To.z 7 ?_
 refine To.rdE rfl rfl rfl (RdE.shl rfl rfl rfl (.inr (.inl rfl)) (by omega)) (fun u11=>?_)
 refine To.z 2 ?_
 refine To.rdE rfl rfl rfl (RdE.sub rfl rfl rfl (.inr (.inr rfl))) (fun u14=>?_)
 refine To.rdE rfl rfl rfl (RdE.shr rfl rfl rfl (by omega)) (fun u15=>?_)
 refine To.rdE rfl rfl rfl (RdE.or rfl rfl rfl (.inr (.inl rfl))) (fun u16=>?_)
 refine To.z 4 ?_
 refine To.end1 (.inl rfl) Tryz.results238 rfl ?_
 exact⟨_,rfl,rfl⟩
theorem rotr_fn(x:Nat)(n:Int):
    Does Tryz.prog 211 [.int .u32 ((x:Nat):Int), .int .i64 n] [] (fun v Γ'=>∃m:Nat,v= .int .u32 (m:Int)∧Γ'=[]):=by
 refine Does.enter Tryz.func211 rfl Tryz.ntmps211 rfl (fun w0=>?_)
 refine To.z 9 ?_
 refine To.r (Rd.negW rfl rfl) ?_
 refine To.cQ rfl rfl rfl (Ent.fn rfl rfl ca238) (rotl_fn x (W64 (-n))) rfl (ocn _) ?_
 rintro _ _ ⟨r,rfl,rfl⟩
 refine⟨rfl,?_⟩
 refine To.z 4 ?_
 refine To.end1 (.inl rfl) Tryz.results211 rfl ?_
 exact⟨_,rfl,rfl⟩
end Go.Proofs.YtihgdnjkofpgiaaGreatDoor

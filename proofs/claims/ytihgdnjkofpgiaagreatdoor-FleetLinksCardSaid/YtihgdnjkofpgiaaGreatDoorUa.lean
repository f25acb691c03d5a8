/- Own text. -/
import Derived.Lib.ConvBytes
import Derived.Test.YtihgdnjkofpgiaaGreatDoorUc
import Derived.Test.YtihgdnjkofpgiaaGreatDoorQb
set_option maxHeartbeats 8000000
set_option maxRecDepth 100000
set_option linter.unusedVariables false
set_option linter.unusedSimpArgs false
namespace Go.Sep
open Go.RowKit Go.Flow Go.Mem Go.Proofs.YtihgdnjkofpgiaaGreatDoor
def byL(s:ByteArray):List Nat:=s.data.toList.map UInt8.toNat
theorem JK(s:ByteArray):(byL s).length=s.size:=by unfold byL;rw[aNv];rfl
theorem NU(s:ByteArray):(byL s).flatMap Fa=Lib.byteCells s.data.toList:=by
 unfold byL Lib.byteCells
 induction s.data.toList with
 |nil=>rfl
 |cons a r ih=>rw[aOw,aPl,ih];rfl
theorem EX{P:Program}{o:Oper}{ρ:Bj}{Γ:List Ad}{x:Operand}{src dst e:TypeId}{s:ByteArray}(ho:o.op= .convert src dst x)(hs:P.underlying src=some .string)(hd:P.underlying dst=some (.slice e))(he:P.underlying e=some (.int .u8))(hx:ev ρ x=some (.string s)):
    Mk P o ρ Γ (fun v N=>∃b cap,v= .slice (some ⟨b,0,none⟩) (byL s).length cap∧N=[ros Fa (some ⟨b,0,none⟩) (byL s)]∧(byL s).length≤cap):=fun a w ha _=>by
 have hrun:=Lib.run_convert_string_bytes (P:=P) w src dst e s hs hd he;have hsz:s.size=s.data.toList.length:=by show s.data.size=_;rw[Array.length_toList]
 have hge:=grownCap_ge w s.size 0 e;refine⟨.slice (some ⟨w.heap.size,0,none⟩) s.size (grownCap w s.size 0 e),[ros Fa (some ⟨w.heap.size,0,none⟩) (byL s)],Lib.bytesWorld w e s,?_,⟨w.heap.size,grownCap w s.size 0 e,by rw[JK],rfl,by rw[JK];simpa using hge⟩,?_⟩
 · unfold execOp
   simp only[ho,ha.eval hx,aPg,hrun,aOy,aPp]
 · have hnew:∀g∈reads [ros Fa (some ⟨w.heap.size,0,none⟩) (byL s)],g=w.heap.size:=fun g hg=>by
     obtain⟨c,hc,hgc⟩:=dm.1 hg;rw[aNz.1 hc]at hgc;unfold ros ro at hgc;cases h:(byL s).flatMap Fa with
     |nil=>rw[h]at hgc;simp[Jc]at hgc
     |cons u r=>rw[h]at hgc;simpa[Jc,Ik]using hgc
   refine⟨⟨fun c hc=>?_,by simp[owns,ros,ro],by simp[owns,ros,ro]⟩,⟨?_,?_,?_,?_,fun i hi _=>Lib.bytesWorld_at_old w e s i hi,?_⟩,by simp[owns,ros,ro],fun g hg hl=>by rw[hnew g hg]at hl;exact aOx hl (Nat.lt_irrefl _)⟩
   · rw[aNz.1 hc]
     refine .inr ⟨w.heap.size,0,rfl,fun j v hv=>?_⟩;rw[NU]at hv;have hj:j<s.data.toList.length:=by
      have:=(aNr.1 hv).1;simpa[Lib.byteCells]using this
     rw[aOz,Lib.bytesWorld_cell w e s j (by rw[hsz];exact hj)];rw[←hv];simp[Lib.byteCells,List.getD,gge hj]
   ·simp[Lib.bytesWorld,World.freeze,World.alloc,World.drew,-World.alloc_eq,-World.drew_eq]
   ·simp[Lib.bytesWorld,World.freeze,World.alloc,World.drew,-World.alloc_eq,-World.drew_eq]
   ·simp[Lib.bytesWorld,World.freeze,World.alloc,World.drew,-World.alloc_eq,-World.drew_eq]
   ·rw[Lib.bytesWorld_size];omega
   ·simp[Lib.bytesWorld,World.freeze,World.alloc,World.drew,World.drawn,-World.alloc_eq,-World.drew_eq]
def Un(k:IntKind):Prop:=k= .u8∨k= .u32∨k= .u64
theorem Un.wrap{k:IntKind}(h:Un k)(x:Int):∃m:Nat,k.wrap x=(m:Int):=by
 rcases h with rfl|rfl|rfl
 ·exact⟨(IntKind.u8.wrap x).toNat,by rw[IntKind.wrap_u8];omega⟩
 ·exact⟨(IntKind.u32.wrap x).toNat,by rw[IntKind.wrap_u32];omega⟩
 ·exact⟨(IntKind.u64.wrap x).toNat,by rw[IntKind.wrap_u64];omega⟩
def RdE(P:Program)(o:Oper)(ρ:Bj)(Γ:List Ad)(k:IntKind):Prop:=∃m:Nat,Rd P o ρ Γ (.int k (m:Int))
section
variable{P:Program}{o:Oper}{ρ:Bj}{Γ:List Ad}{x y:Operand}{t t':TypeId}{k kb:IntKind}{a b:Int}
theorem RdE.add(ho:o.op= .binOp .add t x y t')(hx:ev ρ x=some (.int k a))(hy:ev ρ y=some (.int k b))(hk:Un k):RdE P o ρ Γ k:=by
 obtain⟨m,hm⟩:=hk.wrap (a+b);exact⟨m,dw ho hx hy fun w=>by simp[eqGuard,binOp,Op.intArith,hm]⟩
theorem RdE.sub(ho:o.op= .binOp .sub t x y t')(hx:ev ρ x=some (.int k a))(hy:ev ρ y=some (.int k b))(hk:Un k):RdE P o ρ Γ k:=by
 obtain⟨m,hm⟩:=hk.wrap (a-b);exact⟨m,dw ho hx hy fun w=>by simp[eqGuard,binOp,Op.intArith,hm]⟩
theorem RdE.and(ho:o.op= .binOp .and t x y t')(hx:ev ρ x=some (.int k a))(hy:ev ρ y=some (.int k b))(hk:Un k):RdE P o ρ Γ k:=by
 obtain⟨m,hm⟩:=hk.wrap (BitVec.ofInt k.bits a&&& BitVec.ofInt k.bits b).toNat
 exact⟨m,dw ho hx hy fun w=>by simp only[eqGuard,binOp,Op.intBits,hm];simp⟩
theorem RdE.or(ho:o.op= .binOp .or t x y t')(hx:ev ρ x=some (.int k a))(hy:ev ρ y=some (.int k b))(hk:Un k):RdE P o ρ Γ k:=by
 obtain⟨m,hm⟩:=hk.wrap (BitVec.ofInt k.bits a|||BitVec.ofInt k.bits b).toNat
 exact⟨m,dw ho hx hy fun w=>by simp only[eqGuard,binOp,Op.intBits,hm];simp⟩
theorem RdE.xor(ho:o.op= .binOp .xor t x y t')(hx:ev ρ x=some (.int k a))(hy:ev ρ y=some (.int k b))(hk:Un k):RdE P o ρ Γ k:=by
 obtain⟨m,hm⟩:=hk.wrap (BitVec.ofInt k.bits a^^^BitVec.ofInt k.bits b).toNat
 exact⟨m,dw ho hx hy fun w=>by simp only[eqGuard,binOp,Op.intBits,hm];simp⟩
theorem RdE.shl(ho:o.op= .binOp .shl t x y t')(hx:ev ρ x=some (.int k a))(hy:ev ρ y=some (.int kb b))(hk:Un k)(h0:0≤b):RdE P o ρ Γ k:=by
 obtain⟨m,hm⟩:=hk.wrap (a*2^min b.toNat k.bits);exact⟨m,dw ho hx hy fun w=>by simp only[eqGuard,binOp,Op.shift,aNy (Int.not_lt.2 h0),hm];simp⟩
theorem RdE.shr{n:Nat}(ho:o.op= .binOp .shr t x y t')(hx:ev ρ x=some (.int k (n:Int)))(hy:ev ρ y=some (.int kb b))(h0:0≤b):RdE P o ρ Γ k:=by
 have h1:0≤(n:Int).fdiv (2^min b.toNat k.bits):=Int.fdiv_nonneg om (by have:(0:Int)<2^min b.toNat k.bits:=Int.pow_pos (by decide);omega);exact⟨((n:Int).fdiv (2^min b.toNat k.bits)).toNat,by rw[Int.toNat_of_nonneg h1];exact dw ho hx hy fun w=>by simp only[eqGuard,binOp,Op.shift,aNy (Int.not_lt.2 h0)];simp⟩
theorem aBi(ho:o.op= .unOp .xor t x)(hx:ev ρ x=some (.int k b))(hk:Un k):RdE P o ρ Γ k:=by
 obtain⟨m,hm⟩:=hk.wrap (BitVec.ofInt k.bits (if k.signed then-1 else k.max)^^^BitVec.ofInt k.bits b).toNat
 refine⟨m,fun s w ha _=>?_⟩;unfold execOp;simp only[ho,ha.eval hx,Op.unary,Op.intBits,hm];rfl
theorem Ms{s d:TypeId}{k':IntKind}{ds:TypeDesc}(ho:o.op= .convert s d x)(hx:ev ρ x=some (.int k a))(hs:P.underlying s=some ds)(hd:P.underlying d=some (.int k'))(hk:Un k'):RdE P o ρ Γ k':=by
 obtain⟨m,hm⟩:=hk.wrap a;refine⟨m,fun s w ha _=>?_⟩;unfold execOp;simp[ho,ha.eval hx,convert,run_underlying hs,run_underlying hd,Conv.intToInt,hm]
end
def ShK(kd:Nat→IntKind)(n:Nat)(cs:List Value):Prop:=cs.length=n∧∀i,i<n→∃m:Nat,cs[i]?=some (.int (kd i) (m:Int))
theorem ShK.set{kd:Nat→IntKind}{n i:Nat}{cs:List Value}{k:IntKind}{m:Nat}(h:ShK kd n cs)(hk:kd i=k):ShK kd n (cs.set i (.int k (m:Int))):=⟨by rw[aNw];exact h.1,fun j hj=>by
 rw[List.getElem?_set];by_cases e:i=j
 · subst e
   rw[aOn rfl,aOn (by rw[h.1];exact hj)];exact⟨m,by rw[hk]⟩
 ·rw[aNy e];exact h.2 j hj⟩
theorem ShK.at{kd:Nat→IntKind}{n i:Nat}{cs:List Value}{k:IntKind}(h:ShK kd n cs)(hi:i<n)(hk:kd i=k):∃m:Nat,cs[i]?=some (.int k (m:Int)):=by
 obtain⟨m,hm⟩:=h.2 i hi;exact⟨m,by rw[hm,hk]⟩
theorem ShK.one{kd:Nat→IntKind}{n:Nat}{cs:List Value}(h:ShK kd n cs):cs.all (·.oneCell')=true:=aPt.2 fun v hv=>by
 obtain⟨i,hi⟩:=aPr hv;obtain⟨m,hm⟩:=h.2 i (by have:=(aNr.1 hi).1;rw[h.1]at this;exact this);rw[hi]at hm;cases hm;rfl
theorem JL(k:IntKind)(n:Nat):ShK (fun _=>k) n (List.replicate n (.int k 0)):=⟨aPc,fun i hi=>⟨0,by rw[List.getElem?_replicate,aOn hi];rfl⟩⟩
theorem ShK.fn{k:IntKind}{n:Nat}{cs:List Value}(h:ShK (fun _=>k) n cs):∃f:Nat→Nat,cs=(List.range n).map fun i=>Value.int k ((f i:Nat):Int):=by
 refine⟨fun i=>match cs[i]? with|some (.int _ m)=>m.toNat|_=>0,List.ext_getElem? fun i=>?_⟩;by_cases hi:i<n
 · obtain⟨m,hm⟩:=h.2 i hi
   rw[aOf,List.getElem?_range hi,hm];simp[hm]
 ·rw[List.getElem?_eq_none (by rw[h.1];omega),List.getElem?_eq_none (by rw[aNv,List.length_range];omega)]
section
variable{P:Program}{o:Oper}{ρ:Bj}{Γ:List Ad}{x y z:Operand}
theorem oZ{α:Type}{l:List α}{i:Nat}{x:α}(h:l[i]?=some x):l.set i x=l:=by
 obtain⟨hi,e⟩:=aNr.1 h;rw[←e];exact List.set_getElem_self hi
theorem Mt{b off:Nat}{cs:List Value}{u:Value}{t:TypeId}(hl:off<cs.length):(box b cs t).takes b off [u] (box b (cs.set off u) t):=bt1 (Nat.ble_eq_true_of_le hl)
theorem yU{t:TypeId}{n size b off lo hi:Nat}{k k':IntKind}(ho:o.op= .slice t x (some y) (some z) none)(ht:Ip P t n size)(hx:ev ρ x=some (.pointer (some ⟨b,off,none⟩)))(hy:ev ρ y=some (.int k (lo:Int)))(hz:ev ρ z=some (.int k' (hi:Int)))(h1:lo≤hi)(h2:hi≤n)(h3:lo<n):Rd P o ρ Γ (.slice (some ⟨b,off+lo*size,none⟩) (hi-lo) (n-lo)):=fun a w ha _=>by
 obtain⟨e,i,g1,g2,g3⟩:=ht;unfold execOp;simp[ho,ha.eval hx,ha.eval hy,ha.eval hz,Instr.sliceAt,run_underlying g1,Instr.slice,Instr.sliceBounds,Instr.sliceBound,asIntOf,h1,h2,sizeOf,typeInfo,g2,g3,Instr.sureAddr,Addr.add_mid];intro h;omega
theorem pE{t:TypeId}{n size b off lo:Nat}{k:IntKind}(ho:o.op= .slice t x (some y) none none)(ht:Ip P t n size)(hx:ev ρ x=some (.pointer (some ⟨b,off,none⟩)))(hy:ev ρ y=some (.int k (lo:Int)))(h3:lo<n):Rd P o ρ Γ (.slice (some ⟨b,off+lo*size,none⟩) (n-lo) (n-lo)):=fun a w ha _=>by
 obtain⟨e,i,g1,g2,g3⟩:=ht;have h4:¬n=lo:=om;have h5:lo≤n:=om;unfold execOp;simp[ho,ha.eval hx,ha.eval hy,Instr.sliceAt,run_underlying g1,Instr.slice,Instr.sliceBounds,Instr.sliceBound,asIntOf,h4,h5,sizeOf,typeInfo,g2,g3,Instr.sureAddr,Addr.add_mid]
 done
end
theorem EY{P:Program}{o:Oper}{ρ:Bj}{Γ:List Ad}{x y:Operand}{kd:Nat→IntKind}{N b off n cb q i j:Nat}{cs:List Value}{t dT sT e:TypeId}{B:OA}{l:List Nat}(ho:o.op= .call {callee:= .builtin .copy,args:=#[x,y],argTypes:=#[dT,sT]})(hu:P.underlying dT=some (.slice e))(hz:(P.info? e).map (·.size)=some 1)
    (hx:ev ρ x=some (.slice (some ⟨b,off,none⟩) n cb)) (hy:ev ρ y=some (vs B l q)) (hi:Γ[i]?=some (box b cs t)) (hs:Γ[j]?=some (ros Fa B l)) (hc:ShK kd N cs) (hf:off+n≤N) (hk:∀m,off≤m→m<off+n→kd m= .u8):
    Ge P o ρ Γ (fun v Γ'=>∃(cs':List Value) (m:Nat),v=iv (m:Int)∧Γ'=Γ.set i (box b cs' t)∧ShK kd N cs'∧m≤l.length∧m≤n∧(m=l.length∨m=n)):=fun a w ha hG=>by
 have hb:w.heap[b]?=some (.cells cs.toArray t (0,0)):=hG.each _ (sN hi);have hsrc:Src w B (l.flatMap Fa):=hG.each _ (sN hs);have hlen:(l.flatMap Fa).length=l.length:=(Enc.flat_len Ym l).trans (Nat.mul_one _);rcases Nat.eq_zero_or_pos (Nat.min l.length n)with h0|h0
 · have hr:=run_copy_none (P:=P) w dT sT o.type e (some ⟨b,off,none⟩) B n cb l.length q hu hz h0
   refine⟨.int .i64 0,Γ,w,?_,⟨cs,0,rfl,(oZ hi).symm,hc,aOk _,aOk _,by rcases Nat.le_total l.length n with h|h<;>simp[Nat.min_def]at h0<;>split at h0<;>omega⟩,Db.refl hG⟩;unfold execOp;simp only[ho,resolve,invoke,builtin,aPg,aPp,aOy,List.map_toArray,aOw,aPq,ha.eval hx,ha.eval hy,hr];rfl
 · rcases hsrc with h|⟨g,so,rfl,hr⟩
   · have:l.length=0:=by rw[←hlen,h];rfl
     rw[this]at h0;simp at h0
   · have hml:((l.flatMap Fa).take (Nat.min l.length n)).length=Nat.min l.length n:=by rw[aOh,hlen];exact Nat.min_eq_left (Nat.min_le_left ..)
     have hone:∀v∈(l.flatMap Fa).take (Nat.min l.length n),v.oneCell'=true∧∃m:Nat,v=ui (m:Int):=fun v hv=>by
      have hv:=aPv hv;obtain⟨z,_,hz⟩:=aOs.1 hv;rw[Fa,aNz]at hz;exact⟨by rw[hz];rfl,z,hz⟩
     have hmn:Nat.min l.length n≤n:=Nat.min_le_right ..;have hin:∀m,m<(l.flatMap Fa|>.take (Nat.min l.length n)).length→off+m<cs.length:=fun m hm=>by rw[hml]at hm;rw[hc.1];omega
     have hrun:=run_copy_cells (P:=P) w dT sT o.type e b off n cb ⟨g,so,none⟩ l.length q ((l.flatMap Fa).take (Nat.min l.length n)) hu hz hml
      (fun m v hv=>by
       rw[aQc]at hv;split at hv
       ·rw[Addr.add_mid];exact hr m v hv
       ·cases hv)
      (fun m hm=>by simp[World.cell?,hb,gge (hin m hm)])
      (fun m hm=>by simp[World.frozen?,hb])
      (fun v hv=>(hone v hv).1)
     have hnew:=Uj (t:=t) (b:=b) ((l.flatMap Fa).take (Nat.min l.length n)) off w cs hb (by rw[hml,hc.1];omega);have htk:(box b cs t).takes b off ((l.flatMap Fa).take (Nat.min l.length n)) (box b (over cs off ((l.flatMap Fa).take (Nat.min l.length n))) t):=Ye (by rw[hml];exact Nat.ble_eq_true_of_le (by rw[hc.1];omega)) rfl;obtain⟨_,h2⟩:=Db.takes htk ((hG.perm (Jd hi)).left (Γ:=[box b cs t]));refine⟨_,_,_,?_,⟨over cs off ((l.flatMap Fa).take (Nat.min l.length n)),_,rfl,rfl,?_,Nat.min_le_left ..,Nat.min_le_right ..,(Nat.le_total l.length n).imp Nat.min_eq_left Nat.min_eq_right⟩,Db.set hi hG h2⟩
     · unfold execOp
       simp only[ho,resolve,invoke,builtin,aPg,aPp,aOy,List.map_toArray,aOw,aPq,ha.eval hx,ha.eval hy,hrun,hml];rfl
     · refine⟨?_,fun m hm=>?_⟩
       ·unfold over;simp only[aj,aOh,aPw,hml,hc.1];omega
       · unfold over
         by_cases h1:m<off
         ·rw[aOt,aOu (by rw[aOh,hc.1];omega),aQc,aOn h1];exact hc.2 m hm
         · by_cases h2:m<off+Nat.min l.length n
           · rw[aOu (by simp only[aj,aOh,hml,hc.1];omega),aPj (by rw[aOh,hc.1];omega)]
             have h3:m-(cs.take off).length<((l.flatMap Fa).take (Nat.min l.length n)).length:=by rw[hml,aOh,hc.1];omega
             obtain⟨_,z,hz⟩:=hone _ (List.getElem_mem h3);exact⟨z,by rw[gge h3,hz,hk m om om]⟩
           · rw[aPj (by simp only[aj,aOh,hml,hc.1];omega),aQl]
             obtain⟨z,hz⟩:=hc.2 m hm;refine⟨z,?_⟩;rw[←hz];congr 1;simp only[aj,aOh,hml,hc.1];omega
section
variable{C:Cx}{P:Program}{ρ:Bj}{Γ:List Ad}{ops:Array Oper}{o:Oper}{rest:List Oper}{Q:Exit→Act→World→Prop}{d:Nat}{k:IntKind}
theorem Lg(hg:grd ops ρ o=some true)(hd:o.dst=some d)(hn:Nat.blt d C.n=true)(h:RdE P o ρ Γ k)(kk:∀m:Nat,To C ((d, .int k (m:Int))::ρ) Γ (wpList P ops Q rest)):To C ρ Γ (wpList P ops Q (o::rest)):=by
 obtain⟨m,hm⟩:=h;exact To.rd hg hd hn hm (kk m)
end
theorem RdE.cell{P:Program}{o:Oper}{ρ:Bj}{Γ:List Ad}{x:Operand}{ty t:TypeId}{b off i N:Nat}{cs:List Value}{kd:Nat→IntKind}{k:IntKind}(ho:o.op= .load ty x)(hx:ev ρ x=some (.pointer (some ⟨b,off,none⟩)))(ht:Ca P ty)(hi:Γ[i]?=some (box b cs t))(hc:ShK kd N cs)(h:off<N)(hk:kd off=k):RdE P o ρ Γ k:=by
 obtain⟨m,hm⟩:=hc.at h hk;exact⟨m,Cq ho hx ht hi (bg1 hm)⟩
theorem EZ{P:Program}{o:Oper}{ρ:Bj}{Γ:List Ad}{x:Operand}{ty:TypeId}{b off i N:Nat}{cs:List Value}{kd:Nat→IntKind}{k:IntKind}(ho:o.op= .load ty x)(hx:ev ρ x=some (.pointer (some ⟨b,off,none⟩)))(ht:Ca P ty)(hi:Γ[i]?=some (ro (some ⟨b,0,none⟩) cs))(hc:ShK kd N cs)(h:off<N)(hk:kd off=k):RdE P o ρ Γ k:=by
 obtain⟨m,hm⟩:=hc.at h hk;exact⟨m,Cq ho hx ht hi (by
  have h1:=Ev (A:=some ⟨b,0,none⟩) (o:=off) (k:=1) (xs:=cs) (us:=[.int k (m:Int)]) (aHt hm);have e:ofs (some ⟨b,0,none⟩)+off=off:=aOz _;rw[e]at h1;exact h1)⟩
theorem nI{P:Program}{o:Oper}{ρ:Bj}{Γ:List Ad}{x y:Operand}{t e:TypeId}{n j:Nat}{k k':IntKind}{cs:List Value}(ho:o.op= .index t x y)(ht:P.underlying t=some (.array n e))(he:P.underlying e=some (.int k))(h1:(P.info? e).map (·.size)=some 1)(hx:ev ρ x=some (.agg cs.toArray))(hy:ev ρ y=some (.int k' (j:Int)))(hj:j<n)(hc:ShK (fun _=>k) n cs):RdE P o ρ Γ k:=by
 obtain⟨m,hm⟩:=hc.2 j hj;refine⟨m,fun a w ha _=>?_⟩;obtain⟨i,hi,h1⟩:=aOr.1 h1;unfold execOp;simp[ho,ha.eval hx,ha.eval hy,Instr.index,asIntOf,run_underlying ht,sizeOf,typeInfo,hi,h1,part,isAgg,run_underlying he,hm];omega
section
variable{P:Program}{T:Nat→Option (World→Value→World→Prop)}{l:List Oper}{Θ:List Ad}{Q:Act→World→Prop}{ms:List Ep}{C:Cx}{ρ:Bj}{Γ:List Ad}{N:List (Nat×List Ad)}{i:Nat}{deps:List Nat}{o:Oper}{d:Nat}{k:IntKind}
theorem Ed(ho:l[i]?=some o)(hg:grd l.toArray ρ o=some true)(hd:o.dst=some d)(hn:Nat.blt d C.n=true)(h:RdE P o ρ Θ k)(kk:∀m:Nat,Dt P T l Θ Q ms C ((d, .int k (m:Int))::ρ) Γ N):Dt P T l Θ Q (⟨i,deps,0⟩::ms) C ρ Γ N:=by
 obtain⟨m,hm⟩:=h;exact Nt ho hg hd hn hm (kk m)
theorem vG(ho:l[i]?=some o)(hg:grd l.toArray ρ o=some true)(hd:o.dst=some d)(hn:Nat.blt d C.n=true)(h:RdE P o ρ (avail N deps++Γ) k)(kk:∀m:Nat,Dt P T l Θ Q ms C ((d, .int k (m:Int))::ρ) Γ N):Dt P T l Θ Q (⟨i,deps,1⟩::ms) C ρ Γ N:=by
 obtain⟨m,hm⟩:=h;exact Fw.rd ho hg hd hn hm (kk m)
end
theorem Vj{P:Program}{o:Oper}{ρ:Bj}{Γ:List Ad}{x y:Operand}{t e:TypeId}{size bytes:Nat}{zs:List Value}{b off n cap j:Nat}{k:IntKind}(ho:o.op= .indexAddr t x y)(hx:ev ρ x=some (.slice (some ⟨b,off,none⟩) n cap))(hy:ev ρ y=some (.int k j))(ht:Ce P t e size bytes zs)(hj:j<n):Rd P o ρ Γ (.pointer (some ⟨b,off+j*size,none⟩)):=Ey (A:=some ⟨b,off,none⟩) rfl ho hx hy ht hj
theorem aKp{cs:List Value}{a b c d e f g h:Value}(h0:cs[0]?=some a)(h1:cs[1]?=some b)(h2:cs[2]?=some c)(h3:cs[3]?=some d)(h4:cs[4]?=some e)(h5:cs[5]?=some f)(h6:cs[6]?=some g)(h7:cs[7]?=some h):sub cs 0 8=[a,b,c,d,e,f,g,h]:=by
 match cs,h0,h1,h2,h3,h4,h5,h6,h7 with
 | a'::b'::c'::d'::e'::f'::g'::h'::r,h0,h1,h2,h3,h4,h5,h6,h7=>
   cases h0;cases h1;cases h2;cases h3;cases h4;cases h5;cases h6;cases h7;rfl
theorem sh8{k:IntKind}(a b c d e f g h:Nat):ShK (fun _=>k) 8 [.int k (a:Int), .int k (b:Int), .int k (c:Int), .int k (d:Int), .int k (e:Int), .int k (f:Int), .int k (g:Int), .int k (h:Int)]:=⟨rfl,fun i hi=>by
 match i,hi with
 |0,_=>exact⟨a,rfl⟩
 |1,_=>exact⟨b,rfl⟩
 |2,_=>exact⟨c,rfl⟩
 |3,_=>exact⟨d,rfl⟩
 |4,_=>exact⟨e,rfl⟩
 |5,_=>exact⟨f,rfl⟩
 |6,_=>exact⟨g,rfl⟩
 |7,_=>exact⟨h,rfl⟩⟩
theorem UO{P:Program}{o:Oper}{ρ:Bj}{Γ:List Ad}{x y:Operand}{t e:TypeId}{n c:Nat}{kl kc:IntKind}(ho:o.op= .makeSlice t x y)(ht:Ce P t e 1 1 [ui 0])(hx:ev ρ x=some (.int kl (n:Int)))(hy:ev ρ y=some (.int kc (c:Int)))(hnc:n≤c)(hc:c≤281474976710656):
    Mk P o ρ Γ (fun v N=>∃b,v= .slice (some ⟨b,0,none⟩) (List.replicate n (0:Nat)).length c∧N=[rows Fa e 1 (some ⟨b,0,none⟩) c (List.replicate n (0:Nat))]):=fun a w ha _=>by
 obtain⟨it,zv,h2,h3,h4,h5,h6⟩:=ht.inf;have hm:c≤maxLen:=by simp only[maxLen];omega
 have hr:=run_make (P:=P) w t e it zv ht.und h2 h3 kl kc n c om om (by rw[h5];omega) om;simp only[Int.toNat_natCast,h4,h6]at hr;have hcs:(madeCells #[ui 0] (c*1)).toList=List.replicate c (ui 0):=by
  rw[show#[ui 0]=[ui 0].toArray from rfl,Wp _ _ rfl]
  induction c with
  |zero=>rfl
  |succ c _=>simp
 have hfl:∀m,(List.replicate m (0:Nat)).flatMap Fa=List.replicate m (ui 0):=fun m=>by
  induction m with
  |zero=>rfl
  |succ m ih=>rw[List.replicate_succ,aPl,ih];rfl
 have hheap:(w.alloc (.cells (madeCells #[ui 0] (c*1)) e)).heap[w.heap.size]?=some (.cells (madeCells #[ui 0] (c*1)) e (0,0)):=by simp[World.alloc,-World.alloc_eq]
 have hown:(rows Fa e 1 (some ⟨w.heap.size,0,none⟩) c (List.replicate n (0:Nat))).holds (w.alloc (.cells (madeCells #[ui 0] (c*1)) e)):=by
  show World.ownsRow _ 0 e 1 (.slice _ (List.replicate n (0:Nat)).length c) (List.replicate n (0:Nat)).length _;rw[aPc,hfl];refine⟨by rw[aPc,Nat.mul_one], .inr ⟨w.heap.size,c,_,rfl,aOk _,hheap,hnc,hm,?_,?_⟩⟩
  ·rw[←Array.length_toList,hcs,aPc,Nat.mul_one]
  ·rw[hcs,List.take_replicate,Nat.mul_one,Nat.min_eq_left hnc]
 refine⟨.slice (some ⟨w.heap.size,0,none⟩) n c,[rows Fa e 1 (some ⟨w.heap.size,0,none⟩) c (List.replicate n (0:Nat))],w.alloc (.cells (madeCells #[ui 0] (c*1)) e),?_,⟨w.heap.size,by rw[aPc],rfl⟩,⟨⟨fun z hz=>by rw[aNz.1 hz];exact hown,by simp[owns,rows,row,Ik],by simp[reads,rows,row]⟩,⟨rfl,rfl,rfl,?_,fun i hi _=>?_,aOd _⟩,fun g hg hl=>?_,by simp[reads,rows,row]⟩⟩
 · unfold execOp
   simp only[ho,ha.eval hx,ha.eval hy,aPg,hr,aOy,aPp]
 ·simp[World.alloc,-World.alloc_eq]
 · have h7:w.heap.size≠i:=om
   simp[World.alloc,-World.alloc_eq,Array.getElem?_push,Ne.symm h7]
 ·simp[owns,rows,row,Ik]at hg;omega
end Go.Sep
namespace Go.Proofs.YtihgdnjkofpgiaaGreatDoor
open Go.RowKit Go.Flow Go.Mem Go.Sep Go.In
def cKL:List Nat:=[1116352408,1899447441,3049323471,3921009573,961987163,1508970993,2453635748,2870763221,3624381080,310598401,607225278,1426881987,1925078388,2162078206,2614888103,3248222580,3835390401,4022224774,264347078,604807628,770255983,1249150122,1555081692,1996064986,2554220882,2821834349,2952996808,3210313671,3336571891,3584528711,113926993,338241895,666307205,773529912,1294757372,1396182291,1695183700,1986661051,2177026350,2456956037,2730485921,2820302411,3259730800,3345764771,3516065817,3600352804,4094571909,275423344,430227734,506948616,659060556,883997877,958139571,1322822218,1537002063,1747873779,1955562222,2024104815,2227730452,2361852424,2428436474,2756734187,3204031479,3329325298]
abbrev cKV:List vU:=cKL.map fun z:Nat=>Value.int .u32 (z:Int)
abbrev Xw:Ad:=ro (some ⟨2,0,none⟩) cKV
theorem aKq:ShK (fun _=> .u32) 64 cKV:=⟨rfl,fun i hi=>by
 have:i<cKL.length:=hi;exact⟨cKL[i],by rw[aOf,gge this];rfl⟩⟩
def kdH(i:Nat):IntKind:=if i<8 then .u32 else if i<72 then .u8 else .u64
theorem UQ{i:Nat}(h:i<8):kdH i= .u32:=aOn h
theorem rD{i:Nat}(h:8≤i)(h2:i<72):kdH i= .u8:=by unfold kdH;rw[aNy om,aOn h2]
theorem aBj(x:Nat)(n:Int):
    Bd Tryz.prog 238 [wb x,iv n] [] (fun v Γ'=>∃m:Nat,v=wi (m:Int)∧Γ'=[]):=by
 refine Ba Tryz.func238 Tryz.ntmps238 fun w0=>?_;refine Jz 8 ?_;refine Lg rfl rfl rfl (Ms rfl rfl Tryz.underlying3 Tryz.underlying215 (.inr (.inr rfl))) (fun u7=>?_);refine Lg rfl rfl rfl (RdE.and rfl rfl rfl (.inr (.inr rfl))) (fun u8=>?_);refine Jz 7 ?_;refine Lg rfl rfl rfl (RdE.shl rfl rfl rfl (.inr (.inl rfl)) om) (fun u11=>?_);refine Jz 2 ?_;refine Lg rfl rfl rfl (RdE.sub rfl rfl rfl (.inr (.inr rfl))) (fun u14=>?_);refine Lg rfl rfl rfl (RdE.shr rfl rfl rfl om) (fun u15=>?_);refine Lg rfl rfl rfl (RdE.or rfl rfl rfl (.inr (.inl rfl))) (fun u16=>?_);refine Jz 4 ?_;refine ak Tryz.results238 ?_;exact⟨_,rfl,rfl⟩
theorem Py(x:Nat)(n:Int):
    Bd Tryz.prog 211 [wb x,iv n] [] (fun v Γ'=>∃m:Nat,v=wi (m:Int)∧Γ'=[]):=by
 refine Ba Tryz.func211 Tryz.ntmps211 fun w0=>?_;refine Jz 9 ?_;refine Jr (XE rfl rfl) ?_;refine Jqf (aBj x (W64 (-n))) rfl (jP _) ?_;rintro _ _ ⟨r,rfl,rfl⟩;refine⟨rfl,?_⟩;refine Jz 4 ?_;refine ak Tryz.results211 ?_;exact⟨_,rfl,rfl⟩
theorem aGp(hb:Nat)(cs:List vU)(hcs:ShK kdH 73 cs):
    Bd Tryz.prog 166 [pv hb] [box hb cs 297,Xw] (fun v Γ'=>∃cs',v= .tuple #[]∧Γ'=[box hb cs' 297]∧ShK kdH 73 cs'):=by
 refine Ba Tryz.func166 Tryz.ntmps166 fun w0=>?_;refine Js (cz (ae fun b2=>?_));refine Jz 9 ?_;refine Bw (fun s g mz ρ Γ=>∃(W:List vU) (i:Nat),ρ=[s 0,s 2,(22,nv i)]∧Γ=[g 1,box b2 W 340,Xw]∧mz=16-i∧(i≤16)∧(ShK (fun _=> .u32) 64 W)) ⟨⟨(List.replicate 64 (wi 0)),0,rfl,rfl,rfl,om,(JL .u32 64)⟩,sb⟩ ?_;rintro mz _ _ ⟨W,i,rfl,rfl,rfl,hi,hW⟩;refine Jz 6 ?_;refine aa rfl ?_ ?_<;>intro k23;refine Jz 16 ?_;refine Jr (Cs (v':=nv (4*i)) (aOa iv om) (Ox (m:=4) (n:=((i:Nat):Int)) rfl rfl rfl om)) ?_;refine Jm ?_;refine Jr (Cs (v':=nv (4*i)) (aOa iv om) (Ox (m:=4) (n:=((i:Nat):Int)) rfl rfl rfl om)) ?_;refine Jr (Gq (a:=(4*i)) (b:=4) rfl rfl rfl om) ?_;refine Jr (yU (lo:=4*i) (hi:=4*i+4) rfl (Ip.of (size:=1) Tryz.underlying295 kr) rfl rfl rfl om om om) ?_;refine Jz 3 ?_;refine Jfw [box hb cs 297] [0,1,2,3,4,5,6,7,8,9,10,11,12,13,14,15,16,17,18,19,20,21,22,23,524] (jS (lS 0 rfl) (jP _)) ?_;refine Jz 2 ?_;refine df rfl (Vj (j:=0) rfl rfl rfl s22 om) ?_;refine Ed rfl rfl rfl rfl (RdE.cell (i:=0) rfl rfl c5 rfl hcs om (rD om om)) (fun u37=>?_);refine Ed rfl rfl rfl rfl (Ms rfl rfl Tryz.underlying5 Tryz.underlying282 (.inr (.inl rfl))) (fun u38=>?_);refine Ed rfl rfl rfl rfl (RdE.shl rfl rfl rfl (.inr (.inl rfl)) om) (fun u39=>?_);refine Sn ?_;refine df rfl (Vj (j:=1) rfl rfl rfl s22 om) ?_;refine Ed rfl rfl rfl rfl (RdE.cell (i:=0) rfl rfl c5 rfl hcs om (rD om om)) (fun u42=>?_);refine Ed rfl rfl rfl rfl (Ms rfl rfl Tryz.underlying5 Tryz.underlying282 (.inr (.inl rfl))) (fun u43=>?_);refine Ed rfl rfl rfl rfl (RdE.shl rfl rfl rfl (.inr (.inl rfl)) om) (fun u44=>?_);refine Ed rfl rfl rfl rfl (RdE.or rfl rfl rfl (.inr (.inl rfl))) (fun u45=>?_);refine Sn ?_;refine df rfl (Vj (j:=2) rfl rfl rfl s22 om) ?_;refine Ed rfl rfl rfl rfl (RdE.cell (i:=0) rfl rfl c5 rfl hcs om (rD om om)) (fun u48=>?_);refine Ed rfl rfl rfl rfl (Ms rfl rfl Tryz.underlying5 Tryz.underlying282 (.inr (.inl rfl))) (fun u49=>?_);refine Ed rfl rfl rfl rfl (RdE.shl rfl rfl rfl (.inr (.inl rfl)) om) (fun u50=>?_);refine Ed rfl rfl rfl rfl (RdE.or rfl rfl rfl (.inr (.inl rfl))) (fun u51=>?_);refine Sn ?_;refine df rfl (Vj (j:=3) rfl rfl rfl s22 om) ?_;refine Ed rfl rfl rfl rfl (RdE.cell (i:=0) rfl rfl c5 rfl hcs om (rD om om)) (fun u54=>?_);refine Ed rfl rfl rfl rfl (Ms rfl rfl Tryz.underlying5 Tryz.underlying282 (.inr (.inl rfl))) (fun u55=>?_);refine Ed rfl rfl rfl rfl (RdE.or rfl rfl rfl (.inr (.inl rfl))) (fun u56=>?_);refine df rfl (Cz (j:=i) rfl (Ip.of (size:=1) Tryz.underlying340 kr) rfl rfl om) ?_;refine dh rfl rfl rfl (cu (i:=1) rfl rfl rfl oV rfl rfl (Mt (by simp only[aNw,hW.1];omega))) (jS (lS 0 rfl) (jP _)) ?_;refine Jz 4 ?_;refine Jr (Gq (a:=i) (b:=1) rfl rfl rfl om) ?_;refine Jz 3 ?_;refine Dc ⟨⟨(W.set (0+i*1) (wb u56)),i+1,rfl,rfl,rfl,om,(hW.set rfl)⟩,sb⟩;refine Jz 12 ?_;refine Il (fun s g mz ρ Γ=>∃(W:List vU) (t:Nat),ρ=[s 0,s 2,(5,nv t)]∧Γ=[g 0,box b2 W 340,Xw]∧mz=64-t∧(16≤t∧t≤64)∧(ShK (fun _=> .u32) 64 W)) ⟨⟨W,16,rfl,rfl,rfl,⟨by decide,by decide⟩,hW⟩,sb⟩ ?_;rintro mz _ _ ⟨W,t,rfl,rfl,rfl,ht,hW⟩;refine Jz 7 ?_;refine aa rfl ?_ ?_<;>intro k60;refine Jz 5 ?_;refine Jfw [box b2 W 340] [0,1,2,3,4,5,6,7,8,9] (jS (lS 1 rfl) (jP _)) ?_;refine Sn ?_;refine df rfl (Cs (v':=nv (t-15)) (aOa iv om) (Fh (m:=((t:Nat):Int)) (n:=15) rfl rfl rfl om)) ?_;refine df rfl (Cz (j:=(t-15)) rfl (Ip.of (size:=1) Tryz.underlying340 kr) rfl rfl om) ?_;refine Ed rfl rfl rfl rfl (RdE.cell (i:=0) rfl rfl oV rfl hW om rfl) (fun u66=>?_);refine Sn ?_;refine df rfl (Cs (v':=nv (t-2)) (aOa iv om) (Fh (m:=((t:Nat):Int)) (n:=2) rfl rfl rfl om)) ?_;refine df rfl (Cz (j:=(t-2)) rfl (Ip.of (size:=1) Tryz.underlying340 kr) rfl rfl om) ?_;refine Ed rfl rfl rfl rfl (RdE.cell (i:=0) rfl rfl oV rfl hW om rfl) (fun u70=>?_);refine Jz 7 ?_;refine Jqf (Py u66 7) rfl (jP _) ?_;rintro _ _ ⟨r,rfl,rfl⟩;refine⟨rfl,?_⟩;refine Jm ?_;refine Jqf (Py u66 18) rfl (jP _) ?_;rintro _ _ ⟨r_2,rfl,rfl⟩;refine⟨rfl,?_⟩;refine Lg rfl rfl rfl (RdE.xor rfl rfl rfl (.inr (.inl rfl))) (fun u75=>?_);refine Jm ?_;refine Lg rfl rfl rfl (RdE.shr rfl rfl rfl om) (fun u77=>?_);refine Lg rfl rfl rfl (RdE.xor rfl rfl rfl (.inr (.inl rfl))) (fun u78=>?_);refine Jz 6 ?_;refine Jqf (Py u70 17) rfl (jP _) ?_;rintro _ _ ⟨r_3,rfl,rfl⟩;refine⟨rfl,?_⟩;refine Jm ?_;refine Jqf (Py u70 19) rfl (jP _) ?_;rintro _ _ ⟨r_4,rfl,rfl⟩;refine⟨rfl,?_⟩;refine Lg rfl rfl rfl (RdE.xor rfl rfl rfl (.inr (.inl rfl))) (fun u83=>?_);refine Jm ?_;refine Lg rfl rfl rfl (RdE.shr rfl rfl rfl om) (fun u85=>?_);refine Lg rfl rfl rfl (RdE.xor rfl rfl rfl (.inr (.inl rfl))) (fun u86=>?_);refine Jz 3 ?_;refine Jfw [] [0,1,2,5,7,8,12,103,104,6,109,110,11,13,114,515] (jP _) ?_;refine Jz 2 ?_;refine df rfl (Cs (v':=nv (t-16)) (aOa iv om) (Fh (m:=((t:Nat):Int)) (n:=16) rfl rfl rfl om)) ?_;refine Jz 2 ?_;refine df rfl (Cs (v':=nv (t-7)) (aOa iv om) (Fh (m:=((t:Nat):Int)) (n:=7) rfl rfl rfl om)) ?_;refine Sn ?_;refine Ki rfl (Cz (j:=(t-16)) rfl (Ip.of (size:=1) Tryz.underlying340 kr) rfl rfl om) ?_;refine vG rfl rfl rfl rfl (RdE.cell (i:=1) rfl rfl oV rfl hW om rfl) (fun u91=>?_);refine Ed rfl rfl rfl rfl (RdE.add rfl rfl rfl (.inr (.inl rfl))) (fun u93=>?_);refine Ki rfl (Cz (j:=(t-7)) rfl (Ip.of (size:=1) Tryz.underlying340 kr) rfl rfl om) ?_;refine vG rfl rfl rfl rfl (RdE.cell (i:=1) rfl rfl oV rfl hW om rfl) (fun u97=>?_);refine Ed rfl rfl rfl rfl (RdE.add rfl rfl rfl (.inr (.inl rfl))) (fun u98=>?_);refine Ed rfl rfl rfl rfl (RdE.add rfl rfl rfl (.inr (.inl rfl))) (fun u100=>?_);refine Ki rfl (Cz (j:=t) rfl (Ip.of (size:=1) Tryz.underlying340 kr) rfl rfl om) ?_;refine dh rfl rfl rfl (cu (i:=1) rfl rfl rfl oV rfl rfl (Mt (by simp only[aNw,hW.1];omega))) (jP _) ?_;refine Jz 5 ?_;refine Jr (Gq (a:=t) (b:=1) rfl rfl rfl om) ?_;refine Jz 3 ?_;refine Dc ⟨⟨(W.set (0+t*1) (wb u100)),t+1,rfl,rfl,rfl,om,(hW.set rfl)⟩,sb⟩;refine Jz 10 ?_;obtain⟨a0,ha0⟩:=hcs.at (i:=0) (k:= .u32) de rfl;obtain⟨a1,ha1⟩:=hcs.at (i:=1) (k:= .u32) de rfl;obtain⟨a2,ha2⟩:=hcs.at (i:=2) (k:= .u32) de rfl;obtain⟨a3,ha3⟩:=hcs.at (i:=3) (k:= .u32) de rfl;obtain⟨a4,ha4⟩:=hcs.at (i:=4) (k:= .u32) de rfl;obtain⟨a5,ha5⟩:=hcs.at (i:=5) (k:= .u32) de rfl;obtain⟨a6,ha6⟩:=hcs.at (i:=6) (k:= .u32) de rfl;obtain⟨a7,ha7⟩:=hcs.at (i:=7) (k:= .u32) de rfl;refine Jr (Qc (i:=0) (us:=[wb a0,wb a1,wb a2,wb a3,wb a4,wb a5,wb a6,wb a7]) rfl rfl aJq rfl (Ob (n:=8) (aKp ha0 ha1 ha2 ha3 ha4 ha5 ha6 ha7)) rfl) ?_;refine ae fun b10=>?_;refine Jz 10 ?_;refine Bw (fun s g mz ρ Γ=>∃(s0:Nat) (s1:Nat) (s2:Nat) (s3:Nat) (s4:Nat) (s5:Nat) (s6:Nat) (s7:Nat) (j:Nat),ρ=[s 0,s 2,s 10,(106,nv j)]∧Γ=[g 1,g 2,box b10 [wb s0,wb s1,wb s2,wb s3,wb s4,wb s5,wb s6,wb s7] 294,Xw]∧mz=64-j∧(j≤64)) ⟨⟨a0,a1,a2,a3,a4,a5,a6,a7,0,rfl,rfl,rfl,om⟩,sb⟩ ?_;rintro mz _ _ ⟨s0,s1,s2,s3,s4,s5,s6,s7,j,rfl,rfl,rfl,hj⟩;refine Jz 6 ?_;refine aa rfl ?_ ?_<;>intro k107;refine Jz 11 ?_;refine Jfw [box b10 [wb s0,wb s1,wb s2,wb s3,wb s4,wb s5,wb s6,wb s7] 294] [0,1,2,3,4,5,6,7,8,9,10,11,12,13,14,15,16,17] (jS (lS 2 rfl) (jP _)) ?_;refine df rfl (Cz (j:=0) rfl (Ip.of (size:=1) Tryz.underlying294 kr) rfl rfl de) ?_;refine Jz 1 ?_;refine df rfl (Cz (j:=1) rfl (Ip.of (size:=1) Tryz.underlying294 kr) rfl rfl de) ?_;refine Jz 1 ?_;refine df rfl (Cz (j:=2) rfl (Ip.of (size:=1) Tryz.underlying294 kr) rfl rfl de) ?_;refine Jz 1 ?_;refine df rfl (Cz (j:=4) rfl (Ip.of (size:=1) Tryz.underlying294 kr) rfl rfl de) ?_;refine Jz 1 ?_;refine df rfl (Cz (j:=5) rfl (Ip.of (size:=1) Tryz.underlying294 kr) rfl rfl de) ?_;refine Jz 1 ?_;refine df rfl (Cz (j:=6) rfl (Ip.of (size:=1) Tryz.underlying294 kr) rfl rfl de) ?_;refine Jz 10 ?_;refine Oy [box b10 [wb s0,wb s1,wb s2,wb s3,wb s4,wb s5,wb s6,wb s7] 294,box b2 W 340,Xw] [⟨0,[],0⟩,⟨1,[],0⟩,⟨2,[],0⟩,⟨4,[],0⟩,⟨7,[],0⟩,⟨11,[],0⟩,⟨12,[],0⟩,⟨13,[],0⟩,⟨14,[],0⟩,⟨15,[],0⟩,⟨16,[],0⟩,⟨17,[],0⟩,⟨18,[],0⟩,⟨20,[],0⟩,⟨21,[],0⟩,⟨22,[],0⟩,⟨24,[],0⟩,⟨25,[],0⟩,⟨26,[],0⟩,⟨3,[],4⟩,⟨5,[3],4⟩,⟨6,[3,5],0⟩,⟨8,[3,5],4⟩,⟨9,[3,5,8],0⟩,⟨10,[3,5,8],0⟩,⟨19,[3,5,8],0⟩,⟨23,[3,5,8],0⟩,⟨27,[3,5,8],0⟩,⟨28,[3,5,8],0⟩] mixed.h kr (jS (lS 2 rfl) (jS (lS 1 rfl) (jS (lS 3 rfl) (jP _)))) (df rfl (Cz (j:=7) rfl (Ip.of (size:=1) Tryz.underlying294 kr) rfl rfl de) ?_);refine Jz 6 ?_;refine Ed rfl rfl rfl rfl (RdE.and rfl rfl rfl (.inr (.inl rfl))) (fun u134=>?_);refine Sn ?_;refine Ed rfl rfl rfl rfl (aBi rfl rfl (.inr (.inl rfl))) (fun u136=>?_);refine Sn ?_;refine Ed rfl rfl rfl rfl (RdE.and rfl rfl rfl (.inr (.inl rfl))) (fun u138=>?_);refine Ed rfl rfl rfl rfl (RdE.xor rfl rfl rfl (.inr (.inl rfl))) (fun u139=>?_);refine Sn ?_;refine df rfl (Cz (j:=j) rfl (Ip.of (size:=1) Tryz.underlying340 kr) rfl rfl om) ?_;refine Ed rfl rfl rfl rfl (EZ (i:=2) rfl rfl oV rfl aKq om rfl) (fun u143=>?_);refine Sn ?_;refine df rfl (Cz (j:=j) rfl (Ip.of (size:=1) Tryz.underlying340 kr) rfl rfl om) ?_;refine Ed rfl rfl rfl rfl (RdE.cell (i:=1) rfl rfl oV rfl hW om rfl) (fun u147=>?_);refine Dx rfl rfl rfl rfl rfl .fc (Py s4 6) rfl (jP _) ?_;rintro _ _ ⟨r,rfl,rfl⟩;refine⟨rfl,?_⟩;refine Dx rfl rfl rfl rfl rfl .fc (Py s4 11) rfl (jP _) ?_;rintro _ _ ⟨r_2,rfl,rfl⟩;refine⟨rfl,?_⟩;refine Ed rfl rfl rfl rfl (RdE.xor rfl rfl rfl (.inr (.inl rfl))) (fun u127=>?_);refine Dx rfl rfl rfl rfl rfl .fc (Py s4 25) rfl (jP _) ?_;rintro _ _ ⟨r_3,rfl,rfl⟩;refine⟨rfl,?_⟩;refine Ed rfl rfl rfl rfl (RdE.xor rfl rfl rfl (.inr (.inl rfl))) (fun u130=>?_);refine Ed rfl rfl rfl rfl (RdE.add rfl rfl rfl (.inr (.inl rfl))) (fun u131=>?_);refine Ed rfl rfl rfl rfl (RdE.add rfl rfl rfl (.inr (.inl rfl))) (fun u140=>?_);refine Ed rfl rfl rfl rfl (RdE.add rfl rfl rfl (.inr (.inl rfl))) (fun u144=>?_);refine Ed rfl rfl rfl rfl (RdE.add rfl rfl rfl (.inr (.inl rfl))) (fun u148=>?_);refine Jz 6 ?_;refine Jqf (Py s0 2) rfl (jP _) ?_;rintro _ _ ⟨r_4,rfl,rfl⟩;refine⟨rfl,?_⟩;refine Jm ?_;refine Jqf (Py s0 13) rfl (jP _) ?_;rintro _ _ ⟨r_5,rfl,rfl⟩;refine⟨rfl,?_⟩;refine Lg rfl rfl rfl (RdE.xor rfl rfl rfl (.inr (.inl rfl))) (fun u153=>?_);refine Jm ?_;refine Jqf (Py s0 22) rfl (jP _) ?_;rintro _ _ ⟨r_6,rfl,rfl⟩;refine⟨rfl,?_⟩;refine Lg rfl rfl rfl (RdE.xor rfl rfl rfl (.inr (.inl rfl))) (fun u156=>?_);refine Jz 2 ?_;refine Lg rfl rfl rfl (RdE.and rfl rfl rfl (.inr (.inl rfl))) (fun u159=>?_);refine Jz 2 ?_;refine Lg rfl rfl rfl (RdE.and rfl rfl rfl (.inr (.inl rfl))) (fun u162=>?_);refine Lg rfl rfl rfl (RdE.xor rfl rfl rfl (.inr (.inl rfl))) (fun u163=>?_);refine Jz 2 ?_;refine Lg rfl rfl rfl (RdE.and rfl rfl rfl (.inr (.inl rfl))) (fun u166=>?_);refine Lg rfl rfl rfl (RdE.xor rfl rfl rfl (.inr (.inl rfl))) (fun u167=>?_);refine Lg rfl rfl rfl (RdE.add rfl rfl rfl (.inr (.inl rfl))) (fun u168=>?_);refine Jz 2 ?_;refine Ju [(0,pv hb),(2,pv b2),(10,pv b10),(106,nv j),(107, .bool (decide (((j:Nat):Int)<64))),(11,nv j),(12,wb s0),(13,wb s1),(14,wb s2),(15,wb s4),(16,wb s5),(17,wb s6),(18,wb u148),(19,wb u168)] sb (Jz 4 ?_);refine Lg rfl rfl rfl (RdE.add rfl rfl rfl (.inr (.inl rfl))) (fun u171=>?_);refine Jz 3 ?_;refine Jr (Cz (j:=3) rfl (Ip.of (size:=1) Tryz.underlying294 kr) rfl rfl de) ?_;refine Jz 2 ?_;refine Lg rfl rfl rfl (RdE.add rfl rfl rfl (.inr (.inl rfl))) (fun u178=>?_);refine Jz 3 ?_;refine Jr (.bd [wb u171,wb s0,wb s1,wb s2,wb u178,wb s4,wb s5,wb s6]) ?_;refine Jz 5 ?_;refine Jr (Gq (a:=j) (b:=1) rfl rfl rfl om) ?_;refine Jz 3 ?_;refine Dc ⟨⟨u171,s0,s1,s2,u178,s4,s5,s6,j+1,rfl,rfl,rfl,om⟩,sb⟩;refine Jz 12 ?_;refine Bw (fun s g mz ρ Γ=>∃(ds:List vU) (m:Nat),ρ=[s 0,s 184,(185,nv m)]∧Γ=[box hb ds 297]∧mz=8-m∧(m≤8)∧(ShK kdH 73 ds)) ⟨⟨cs,0,rfl,rfl,rfl,om,hcs⟩,sb⟩ ?_;rintro mz _ _ ⟨ds,m,rfl,rfl,rfl,hm,hds⟩;refine Jz 6 ?_;refine aa rfl ?_ ?_<;>intro k186;refine Jz 7 ?_;refine Lg rfl rfl rfl (nI rfl Tryz.underlying294 Tryz.underlying282 kr rfl rfl om (sh8 s0 s1 s2 s3 s4 s5 s6 s7)) (fun u188=>?_);refine Jz 4 ?_;refine Jfw [] [0,1,2,6,8,9,103,104,105,107,110,511] (jP _) ?_;refine Jz 7 ?_;refine Ki rfl (Cz (j:=m) rfl (Ip.of (size:=1) Tryz.underlying294 kr) rfl rfl om) ?_;refine vG rfl rfl rfl rfl (RdE.cell (i:=0) rfl rfl oV rfl hds om (UQ om)) (fun u194=>?_);refine vG rfl rfl rfl rfl (RdE.add rfl rfl rfl (.inr (.inl rfl))) (fun u196=>?_);refine Ki rfl (Cz (j:=m) rfl (Ip.of (size:=1) Tryz.underlying294 kr) rfl rfl om) ?_;refine dh rfl rfl rfl (cu (i:=0) rfl rfl rfl oV rfl rfl (Mt (by simp only[aNw,hds.1];omega))) (jP _) ?_;refine Jz 4 ?_;refine Jr (Gq (a:=m) (b:=1) rfl rfl rfl om) ?_;refine Jz 3 ?_;refine Dc ⟨⟨(ds.set (0+m*1) (wb u196)),m+1,rfl,rfl,rfl,om,(hds.set (UQ om))⟩,sb⟩;refine Jz 4 ?_;refine Dr (.inr rfl) Tryz.results166 ?_;exact⟨ds,rfl,rfl,hds⟩
theorem rE(hb:Nat)(cs0:List vU)(hcs0:ShK kdH 73 cs0)(A0:OA)(q0:Nat)(l0:List Nat)(hq0:l0.length≤q0):
    Bd Tryz.prog 111 [pv hb,vs A0 l0 q0] [box hb cs0 297,Xw,ros Fa A0 l0] (fun v Γ'=>∃cs',v= .tuple #[]∧Γ'=[box hb cs' 297]∧ShK kdH 73 cs'):=by
 refine Ba Tryz.func111 Tryz.ntmps111 fun w0=>?_;refine Jz 4 ?_;refine Jr (Jg rfl Tryz.underlying234 rfl rfl) ?_;refine Jz 6 ?_;refine aEk (fun mz ρ Γ=>∃(cs:List vU) (A:OA) (q:Nat) (l:List Nat),ρ=[(0,pv hb),(1,vs A l q)]∧Γ=[box hb cs 297,Xw,ros Fa A l]∧mz=l.length∧(ShK kdH 73 cs)∧(l.length≤q)) (l0.length) ⟨⟨cs0,A0,q0,l0,rfl,rfl,rfl,hcs0,hq0⟩,sb⟩ ?_;rintro mz _ _ ⟨cs,A,q,l,rfl,rfl,rfl,hcs,hq⟩;refine Jz 8 ?_;refine aa rfl ?_ ?_<;>intro k10;refine Jz 8 ?_;refine Lg rfl rfl rfl (RdE.cell (i:=0) rfl rfl SV rfl hcs om rfl) (fun u14=>?_);refine Jr (Mc (a:=u14) (b:=64) rfl rfl rfl om) ?_;refine Jr (Kg rfl rfl Tryz.underlying268 Tryz.underlying3 (IntWalk.i64_in _ om)) ?_;refine Jz 9 ?_;refine Jr (pE (lo:=(u14%64)) rfl (Ip.of (size:=1) Tryz.underlying295 kr) rfl rfl om) ?_;refine Jm ?_;refine Jge rfl rfl rfl (EY (i:=0) (j:=2) rfl Tryz.underlying22 kr rfl rfl rfl rfl hcs om (fun m h1 h2=>rD om om)) ?_;rintro _ _ ⟨cs2,n2,rfl,rfl,hcs2,hn1,hn2,hn3⟩;refine Jz 4 ?_;refine CU Ym q n2 2 rfl hq hn1 (Jz 3 ?_);refine Jr (Cs (v':= .slice (slAt A q n2 1) (l.drop n2).length (q-n2)) (aOa (fun z=>Value.slice (slAt A q n2 1) z (q-n2)) aPw.symm) (Rl (lo:=n2) rfl s22 rfl rfl hn1)) ?_;refine Jz 8 ?_;refine Lg rfl rfl rfl (RdE.cell (i:=1) rfl rfl SV rfl hcs2 om rfl) (fun u30=>?_);refine Jm ?_;refine Lg rfl rfl rfl (Ms rfl rfl Tryz.underlying3 Tryz.underlying268 (.inr (.inr rfl))) (fun u32=>?_);refine Lg rfl rfl rfl (RdE.add rfl rfl rfl (.inr (.inr rfl))) (fun u33=>?_);refine Jz 2 ?_;refine To.u (cu (i:=1) rfl rfl rfl SV rfl rfl (Mt (by simp only[aNw,hcs2.1];omega))) ?_;refine Jz 6 ?_;refine Jr (Gq (a:=(u14%64)) (b:=n2) rfl rfl rfl om) ?_;refine Jz 3 ?_;refine aa rfl ?_ ?_<;>intro k39;refine Qb 2 rfl rfl (Jz 2 ?_);refine af [2,0] (aGp hb (cs2.set (72) (xb u33)) (hcs2.set rfl)) ?_;rintro _ _ ⟨cs4,rfl,rfl,hcs4⟩;refine Jz 3 ?_;refine Cr (Ig (Kj (QB ((l.drop n2).length) (by rw[aPw];omega) ⟨⟨cs4,(slAt A q n2 1),(q-n2),(l.drop n2),rfl,rfl,rfl,hcs4,(by rw[aPw];omega)⟩,sb⟩)));refine Jz 3 ?_;refine Cr (Ig (Ig (QB ((l.drop n2).length) (by rw[aPw];omega) ⟨⟨(cs2.set (72) (xb u33)),(slAt A q n2 1),(q-n2),(l.drop n2),rfl,rfl,rfl,(hcs2.set rfl),(by rw[aPw];omega)⟩,sb⟩)));refine Jz 4 ?_;refine Cb (Ci (Dr (.inr rfl) Tryz.results111 ?_));exact⟨cs,rfl,rfl,hcs⟩
theorem UR(x:Nat):
    Bd Tryz.prog 167 [xb x] [] (fun v Γ'=>∃(b:Nat) (D:List Nat),v=vs (some ⟨b,0,none⟩) D 8∧Γ'=[rows Fa 5 1 (some ⟨b,0,none⟩) 8 D]∧D.length=8):=by
 refine Ba Tryz.func167 Tryz.ntmps167 fun w0=>?_;refine Jz 7 ?_;refine Jmk rfl rfl rfl (Sq (enc:=Fa) (z:=0) (n:=8) rfl rfl s22 rfl rfl om (by simp only[maxLen];omega)) ?_;rintro _ _ ⟨b5,rfl,rfl⟩;refine Jz 7 ?_;refine Jr (Cs (v':=nv 8) rfl (Rd.len rfl rfl Tryz.underlying22)) ?_;refine Jz 4 ?_;refine Il (fun s g mz ρ Γ=>∃(D:List Nat) (j:Nat),ρ=[s 0,(3,vs (some ⟨b5,0,none⟩) D 8),s 7,(8,nv j)]∧Γ=[rows Fa 5 1 (some ⟨b5,0,none⟩) 8 D]∧mz=8-j∧(j≤8)∧(D.length=8)) ⟨⟨(List.replicate 8 0),0,rfl,rfl,rfl,om,rfl⟩,sb⟩ ?_;rintro mz _ _ ⟨D,j,rfl,rfl,rfl,hj,hD⟩;refine Jz 6 ?_;refine aa rfl ?_ ?_<;>intro k9;refine Jz 10 ?_;obtain⟨d0,hd0⟩:=ai D j om;refine Jz 5 ?_;refine Jr (Cs (v':=nv (8*j)) (aOa iv om) (Ox (m:=8) (n:=((j:Nat):Int)) rfl rfl rfl om)) ?_;refine Jr (Fh rfl rfl rfl om) ?_;refine Lg rfl rfl rfl (RdE.shr rfl rfl rfl om) (fun u17=>?_);refine Lg rfl rfl rfl (Ms rfl rfl Tryz.underlying268 Tryz.underlying5 (.inl rfl)) (fun u18=>?_);refine Jz 1 ?_;refine To.u (cu (i:=0) rfl rfl rfl c5 rfl rfl (Ha Ym (y:=u18) de om)) ?_;refine Jz 4 ?_;refine Jr (Gq (a:=j) (b:=1) rfl rfl rfl om) ?_;refine Jz 3 ?_;refine Ju [(0,xb x),(3, .slice (some ⟨b5,0,none⟩) (D.set j u18).length 8),(7,nv 8),(8,nv ((j+1)))] ⟨rfl,(aOa (fun n=>some (Value.slice (some ⟨b5,0,none⟩) n 8)) aNw.symm),rfl,rfl,trivial⟩ (Jag (8-(j+1)) om ⟨(D.set j u18),j+1,rfl,rfl,rfl,om,(by rw[aNw];exact hD)⟩);refine Jz 12 ?_;refine ak Tryz.results167 ?_;exact⟨b5,D,rfl,rfl,hD⟩
def idL(f:Nat→Nat):List vU:=(List.range 32).map fun i=>Value.int .u8 ((f i:Nat):Int)
theorem aKr(ws:List Nat)(h:ws.length=8):ShK kdH 73 (ws.map (fun z:Nat=>Value.int .u32 (z:Int))++(List.replicate 64 (ui 0)++[xi 0])):=⟨by simp[h],fun i hi=>by
 by_cases h1:i<8
 · rw[aOu (by rw[aNv];omega),UQ h1,aOf,gge om]
   exact⟨_,rfl⟩
 · rw[aPj (by rw[aNv];omega),aNv,h]
   by_cases h2:i<72
   · rw[aOu (by rw[aPc];omega),rD om h2,List.getElem?_replicate,aOn om]
     exact⟨0,rfl⟩
   · have e:i=72:=om
     subst e;exact⟨0,rfl⟩⟩
theorem aBk(hb:Nat)(cs:List vU)(hcs:ShK kdH 73 cs):
    Bd Tryz.prog 112 [pv hb] [box hb cs 297,Xw] (fun v Γ'=>∃f:Nat→Nat,v= .agg (idL f).toArray∧Γ'=[]):=by
 refine Ba Tryz.func112 Tryz.ntmps112 fun w0=>?_;refine Js (cz (To.alloc rfl rfl rfl rfl z96 (fun b2=>?_)));refine Jn (Jt (Js (Js (cz (Jm ?_)))));refine Jr (Jg rfl Tryz.underlying234 rfl rfl) ?_;refine Jn (Jt (BS rfl (Jsp (Jt (Js (cz (Jm ?_)))))));refine Jnc ?_;refine Jr (Qc (i:=1) rfl rfl aJr rfl Yf hcs.1) ?_;refine To.alloc rfl rfl rfl rfl aMv (fun b3=>?_);refine To.u (Cf (i:=0) (us:=cs) rfl rfl rfl aJr hcs.1 hcs.one rfl (bta hcs.1)) ?_;refine Jn (Jt (Js (cz (To.f IX ?_))));refine Lg rfl rfl rfl (RdE.cell (i:=0) rfl rfl SV rfl hcs om rfl) (fun u17=>?_);refine Jr (Mc (a:=u17) (b:=64) rfl rfl rfl om) ?_;refine Jr (Kg rfl rfl Tryz.underlying268 Tryz.underlying3 (IntWalk.i64_in _ om)) ?_;refine Ja (Jn (Jt (Js (cz ?_))));refine Jm ?_;refine Jr (Fh rfl rfl rfl om) ?_;refine Ja (Jn (Jt (Js (Js (cz ?_)))));refine Jm ?_;refine To.le ?_;refine Jn (Jt (Uo (T:=(Nat)) (fun t=>([(0,pv hb),(2,pv b2),(3,pv b3),(5,nv ((t)))],[box hb cs 297,box b2 [ui 0,ui 0,ui 0,ui 0,ui 0,ui 0,ui 0,ui 0,ui 0,ui 0,ui 0,ui 0,ui 0,ui 0,ui 0,ui 0,ui 0,ui 0,ui 0,ui 0,ui 0,ui 0,ui 0,ui 0,ui 0,ui 0,ui 0,ui 0,ui 0,ui 0,ui 0,ui 0] 96,box b3 cs 297,Xw])) (fun t=>(1≤(t)∧(t)≤64)) ?_ ?_));refine aa rfl ?_ ?_<;>intro k23;refine cz (Jm ?_);refine Jr (Io rfl rfl rfl om) ?_;refine Ja (Jn (Jt (Kj (Ig ?_))));refine Jhe (((56-((u17%64:Nat):Int))+64).toNat) ⟨by omega,by omega⟩ ⟨rfl,rfl,rfl,(aOa (fun z=>some (iv z)) om),trivial⟩ rfl;refine Jsp (Jt (Kj (Ig (Jhe ((56-((u17%64:Nat):Int)).toNat) ⟨by omega,by omega⟩ ⟨rfl,rfl,rfl,(aOa (fun z=>some (iv z)) om),trivial⟩ rfl))));rintro n hn;replace hn:1≤n∧n≤64:=hn;dsimp only;refine Js (cz (Jm ?_));refine Jm ?_;refine Jr (Gq (a:=n) (b:=8) rfl rfl rfl om) ?_;refine Jmk rfl rfl rfl (UO (n:=n) (c:=n+8) rfl s22 rfl rfl om om) ?_;rintro _ _ ⟨b29,rfl,rfl⟩;refine Ja (Jn (Jt (Js ?_)));have hrl:(List.replicate n 0).length=n:=aPc;have hr0:(List.replicate n 0)[0]?=some 0:=by rw[List.getElem?_replicate,aOn om]
 refine cz (Jm ?_);refine Jr (Lh (i:=0) (j:=0) rfl rfl rfl s22 rfl hr0) ?_;refine To.u (cu (i:=0) rfl rfl rfl c5 rfl rfl (Ha Ym (y:=128) de om)) ?_;refine Jn (Jt (Js ?_));obtain⟨E,hE⟩:∃E,E=(List.replicate n 0).set 0 128:=⟨_,rfl⟩
 rw[←hE];have hEl:E.length=n:=by rw[hE,aNw,aPc]
 refine Ju [(0,pv hb),(2,pv b2),(3,pv b3),(6,vs (some ⟨b29,0,none⟩) E (n+8))] ⟨rfl,rfl,rfl,(aOa (fun z=>some (Value.slice (some ⟨b29,0,none⟩) z (n+8))) (by rw[hEl,aPc])),trivial⟩ (cz (Jm ?_));refine Jm ?_;refine Jnc ?_;refine To.f IX ?_;refine Lg rfl rfl rfl (RdE.cell (i:=1) rfl rfl SV rfl hcs om rfl) (fun u36=>?_);refine Lg rfl rfl rfl (RdE.shl rfl rfl rfl (.inr (.inr rfl)) om) (fun u37=>?_);refine Jqf (UR u37) rfl (jP _) ?_;rintro _ _ ⟨b8,D8,rfl,rfl,hD8⟩;refine⟨rfl,?_⟩;refine Jge rfl rfl rfl (Kw Ym (i:=1) (m:=D8) rfl s22 rfl rfl rfl (Sl (i:=0) rfl) om om) ?_;rintro _ _ ⟨A39,q39,rfl,rfl⟩;refine yL 1 rfl (fun hqw=>?_);refine Kj (Dp (af [4,4,0] (rE b3 cs hcs A39 q39 (E++D8) hqw) ?_));rintro _ _ ⟨cs3,rfl,rfl,hcs3⟩;refine Jn (Jt (Js (cz (To.alloc rfl rfl rfl rfl z96 (fun b7=>?_)))));refine Jn (Jt (Js (Js (cz (To.f ZU ?_)))));obtain⟨a0,ha0⟩:=hcs3.at (i:=0) (k:= .u32) de rfl;obtain⟨a1,ha1⟩:=hcs3.at (i:=1) (k:= .u32) de rfl;obtain⟨a2,ha2⟩:=hcs3.at (i:=2) (k:= .u32) de rfl;obtain⟨a3,ha3⟩:=hcs3.at (i:=3) (k:= .u32) de rfl;obtain⟨a4,ha4⟩:=hcs3.at (i:=4) (k:= .u32) de rfl;obtain⟨a5,ha5⟩:=hcs3.at (i:=5) (k:= .u32) de rfl;obtain⟨a6,ha6⟩:=hcs3.at (i:=6) (k:= .u32) de rfl;obtain⟨a7,ha7⟩:=hcs3.at (i:=7) (k:= .u32) de rfl;refine Jr (Qc (i:=1) (us:=[wb a0,wb a1,wb a2,wb a3,wb a4,wb a5,wb a6,wb a7]) rfl rfl aJq rfl (Ob (n:=8) (aKp ha0 ha1 ha2 ha3 ha4 ha5 ha6 ha7)) rfl) ?_;refine Jm (Jn (Jt (To.b ?_)));refine Bw (fun s g mz ρ Γ=>∃(ds:List vU) (j:Nat),ρ=[s 2,s 7,s 42,(43,nv j)]∧Γ=[g 4,box b7 ds 96]∧mz=8-j∧(j≤8)∧(ShK (fun _=> .u8) 32 ds)) ⟨⟨(List.replicate 32 (ui 0)),0,rfl,rfl,rfl,om,(JL .u8 32)⟩,sb⟩ ?_;rintro mz _ _ ⟨ds,j,rfl,rfl,rfl,hj,hds⟩;refine Js (cz (Jlt ?_));refine Jn (Jt (Js (aa rfl (fun k44=>?_) (fun k44=>?_))));refine Jsp (Jt (Js (To.b (Js (cz (Jm ?_))))));refine Lg rfl rfl rfl (nI rfl Tryz.underlying294 Tryz.underlying282 kr rfl rfl om (sh8 a0 a1 a2 a3 a4 a5 a6 a7)) (fun u46=>?_);refine Ja ?_;refine Ja (Jn (Jt (cz ?_)));refine Jm ?_;refine Jr (Cs (v':=nv (4*j)) (aOa iv om) (Ox (m:=4) (n:=((j:Nat):Int)) rfl rfl rfl om)) ?_;refine Jm ?_;refine Jr (Cs (v':=nv (4*j)) (aOa iv om) (Ox (m:=4) (n:=((j:Nat):Int)) rfl rfl rfl om)) ?_;refine Jr (Gq (a:=(4*j)) (b:=1) rfl rfl rfl om) ?_;refine Jm ?_;refine Jr (Cs (v':=nv (4*j)) (aOa iv om) (Ox (m:=4) (n:=((j:Nat):Int)) rfl rfl rfl om)) ?_;refine Jr (Gq (a:=(4*j)) (b:=2) rfl rfl rfl om) ?_;refine Jm ?_;refine Jr (Cs (v':=nv (4*j)) (aOa iv om) (Ox (m:=4) (n:=((j:Nat):Int)) rfl rfl rfl om)) ?_;refine Jr (Gq (a:=(4*j)) (b:=3) rfl rfl rfl om) ?_;refine Jm ?_;refine Lg rfl rfl rfl (RdE.shr rfl rfl rfl om) (fun u59=>?_);refine Lg rfl rfl rfl (Ms rfl rfl Tryz.underlying282 Tryz.underlying5 (.inl rfl)) (fun u60=>?_);refine Jm ?_;refine Lg rfl rfl rfl (RdE.shr rfl rfl rfl om) (fun u62=>?_);refine Lg rfl rfl rfl (Ms rfl rfl Tryz.underlying282 Tryz.underlying5 (.inl rfl)) (fun u63=>?_);refine Jm ?_;refine Lg rfl rfl rfl (RdE.shr rfl rfl rfl om) (fun u65=>?_);refine Lg rfl rfl rfl (Ms rfl rfl Tryz.underlying282 Tryz.underlying5 (.inl rfl)) (fun u66=>?_);refine Jm ?_;refine Lg rfl rfl rfl (Ms rfl rfl Tryz.underlying282 Tryz.underlying5 (.inl rfl)) (fun u68=>?_);refine Jr (Cz (j:=(4*j)) rfl (Ip.of (size:=1) Tryz.underlying96 kr) rfl rfl om) ?_;refine To.u (cu (i:=1) rfl rfl rfl c5 rfl rfl (Mt (by simp only[aNw,hds.1];omega))) ?_;refine Jr (Cz (j:=(4*j+1)) rfl (Ip.of (size:=1) Tryz.underlying96 kr) rfl rfl om) ?_;refine To.u (cu (i:=1) rfl rfl rfl c5 rfl rfl (Mt (by simp only[aNw,hds.1];omega))) ?_;refine Jr (Cz (j:=(4*j+2)) rfl (Ip.of (size:=1) Tryz.underlying96 kr) rfl rfl om) ?_;refine To.u (cu (i:=1) rfl rfl rfl c5 rfl rfl (Mt (by simp only[aNw,hds.1];omega))) ?_;refine Jr (Cz (j:=(4*j+3)) rfl (Ip.of (size:=1) Tryz.underlying96 kr) rfl rfl om) ?_;refine To.u (cu (i:=1) rfl rfl rfl c5 rfl rfl (Mt (by simp only[aNw,hds.1];omega))) ?_;refine Jn (Jbn (Jt (cz (Jr (Gq (a:=j) (b:=1) rfl rfl rfl om) ?_))));refine Jm (Jn (Jt ?_));refine Dc ⟨⟨((((ds.set (0+(4*j)*1) (ub u60)).set (0+(4*j+1)*1) (ub u63)).set (0+(4*j+2)*1) (ub u66)).set (0+(4*j+3)*1) (ub u68)),j+1,rfl,rfl,rfl,om,((((hds.set rfl).set rfl).set rfl).set rfl)⟩,sb⟩;refine Jex (Jtx (Jtx (Jbx (Jt (Js ?_)))));obtain⟨f,rfl⟩:=hds.fn;refine cz (Jr (Qc (i:=1) (us:=idL f) rfl rfl r96 rfl Yf rfl) ?_);refine To.u (Cf (i:=0) (us:=idL f) rfl rfl rfl r96 rfl rfl rfl (bta rfl)) ?_;refine Jn (Jt (Jrt (Ec [] Tryz.results112 ?_)));exact⟨f,rfl,rfl⟩
theorem aBl:
    Bd Tryz.prog 110 [] [] (fun v Γ'=>∃(b:Nat) (cs:List vU),v=pv b∧Γ'=[box b cs 297]∧ShK kdH 73 cs):=by
 refine Ba Tryz.func110 Tryz.ntmps110 fun w0=>?_;refine Js (cz (Ja (Jn (Jt (Js (cz ?_))))));refine Jr (.bd [wi 1779033703,wi 3144134277,wi 1013904242,wi 2773480762,wi 1359893119,wi 2600822924,wi 528734635,wi 1541459225]) ?_;refine Jr (.bd [wi 1779033703,wi 3144134277,wi 1013904242,wi 2773480762,wi 1359893119,wi 2600822924,wi 528734635,wi 1541459225,ui 0,ui 0,ui 0,ui 0,ui 0,ui 0,ui 0,ui 0,ui 0,ui 0,ui 0,ui 0,ui 0,ui 0,ui 0,ui 0,ui 0,ui 0,ui 0,ui 0,ui 0,ui 0,ui 0,ui 0,ui 0,ui 0,ui 0,ui 0,ui 0,ui 0,ui 0,ui 0,ui 0,ui 0,ui 0,ui 0,ui 0,ui 0,ui 0,ui 0,ui 0,ui 0,ui 0,ui 0,ui 0,ui 0,ui 0,ui 0,ui 0,ui 0,ui 0,ui 0,ui 0,ui 0,ui 0,ui 0,ui 0,ui 0,ui 0,ui 0,ui 0,ui 0,ui 0,ui 0,xi 0]) ?_;refine QK rfl rfl rfl rfl rfl rfl (fun b3=>?_);refine Ja (Jn (Jt (Jrt ?_)));refine ak Tryz.results110 ?_;exact⟨_,_,rfl,rfl,aKr [1779033703,3144134277,1013904242,2773480762,1359893119,2600822924,528734635,1541459225] rfl⟩
theorem aGq(A:OA)(q:Nat)(l:List Nat)(hq:l.length≤q):
    Bd Tryz.prog 76 [vs A l q] [ros Fa A l,Xw] (fun v Γ'=>∃f:Nat→Nat,v= .agg (idL f).toArray∧Γ'=[]):=by
 refine Ba Tryz.func76 Tryz.ntmps76 fun w0=>?_;refine Js (cz (To.alloc rfl rfl rfl rfl z96 (fun b2=>?_)));refine Jn (Jt (Js (cz (Jqf (aBl) rfl (jP _) ?_))));rintro _ _ ⟨hb,cs,rfl,rfl,hcs⟩;refine⟨rfl,?_⟩;refine Ja (Jn (Jt (Js (cz ?_))));refine Jm ?_;refine Jm ?_;refine Qb 3 rfl rfl (af [1,0,1] (rE hb cs hcs A q l hq) ?_);rintro _ _ ⟨cs2,rfl,rfl,hcs2⟩;refine Jn (Jt (Js (cz (Jm ?_))));refine af [0,1] (aBk hb cs2 hcs2) ?_;rintro _ _ ⟨f,rfl,rfl⟩;refine To.u (Cf (i:=0) (us:=idL f) rfl rfl rfl r96 rfl rfl rfl (bta rfl)) ?_;refine Jn (Jt (Jrt (Ec [] Tryz.results76 ?_)));exact⟨f,rfl,rfl⟩
end Go.Proofs.YtihgdnjkofpgiaaGreatDoor

/- Merged out of P1p, J1, J2 by merge.py. Own text. -/
import Derived.Test.YtihgdnjkofpgiaaGreatDoorUc
import Derived.Test.YtihgdnjkofpgiaaGreatDoorVa
set_option linter.unusedVariables false
set_option linter.unusedSimpArgs false
set_option maxHeartbeats 2000000
set_option maxRecDepth 100000
namespace Go.Proofs.YtihgdnjkofpgiaaGreatDoor
open Go.RowKit Go.Flow Go.Mem Go.Sep Go.In
theorem isNm_size{s:ByteArray}(h:isNm s):s.size≤6:=by
 obtain⟨t,ht,rfl⟩:=h
 have all:nmsL.all (fun t=>decide ((bytesOf t).size≤6))=true:=by decide+kernel
 exact of_decide_eq_true (List.all_eq_true.1 all t ht)
mutual
def PE.tz:PE→Nat
 |⟨_,s,_,l⟩=>s.size+40+PE.tzL l
def PE.tzL:List PE→Nat
 |[]=>0
 |e::r=>PE.tz e+PE.tzL r
end
theorem PE.tz_mem:∀{l:List PE} {x:PE},x∈l→x.tz≤PE.tzL l
 | e::r,x,h=>by
   show x.tz≤e.tz+PE.tzL r
   rcases List.mem_cons.1 h with rfl|h
   ·omega
   ·have:=PE.tz_mem h;omega
theorem nm_size{o:Nat}{s:ByteArray}(h4:namL.getD o false=true→isNm s)(h5:namL.getD o false=false→s=nE):s.size≤6:=by
 cases h:namL.getD o false with
 |true=>exact isNm_size (h4 h)
 |false=>rw[h5 h];exact Nat.zero_le _
mutual
theorem PE.tz_le:∀e:PE,e.fine→PE.tz e+46≤46*2^e.dep
 | ⟨o,s,n,l⟩,h=>by
   obtain⟨_,h3,⟨h4,h5⟩,_,h6⟩:=h
   have h7:=PE.tzL_le l h6
   have h8:=nm_size h4 h5
   have h9:l.length≤2:=by rw[h3];exact opnL_le o
   show s.size+40+PE.tzL l+46≤46*2^(PE.depL l+1)
   rw[Nat.pow_succ]
   have:1≤2^PE.depL l:=Nat.one_le_two_pow
   obtain h9|h9|h9:l.length=0∨l.length=1∨l.length=2:=by omega
   all_goals rw[h9]at h7;omega
theorem PE.tzL_le:∀l:List PE,PE.fineL l→PE.tzL l+46*l.length≤l.length*(46*2^PE.depL l)
 |[],_=>by show 0+46*0≤0*_;omega
 | e::r,h=>by
   have h1:=PE.tz_le e h.1
   have h2:=PE.tzL_le r h.2
   have e1:2^e.dep≤2^max e.dep (PE.depL r):=Nat.pow_le_pow_right (by decide) (Nat.le_max_left ..)
   have e2:2^PE.depL r≤2^max e.dep (PE.depL r):=Nat.pow_le_pow_right (by decide) (Nat.le_max_right ..)
   show PE.tz e+PE.tzL r+46*(r.length+1)≤(r.length+1)*(46*2^max e.dep (PE.depL r))
   have e3:r.length*(46*2^PE.depL r)≤r.length*(46*2^max e.dep (PE.depL r)):=Nat.mul_le_mul_left _ (by omega)
   rw[Nat.add_mul]
   omega
end
theorem PE.tz_8{e:PE}(h:e.fine)(h8:e.dep≤8):e.tz≤12000:=by
 have h1:=PE.tz_le e h
 have:2^e.dep≤2^8:=Nat.pow_le_pow_right (by decide) h8
 omega
theorem Ex.tz_mem{e x:Ex}(hx:x∈e.args):x.pure.tz≤PE.tzL (Ex.pL e.args):=PE.tz_mem (by rw[Ex.pureL_map];exact List.mem_map.2 ⟨x,hx,rfl⟩)
theorem Ex.tz_eq(e:Ex):e.pure.tz=e.name.size+40+PE.tzL (Ex.pL e.args):=by rw[Ex.pure_eq];rfl
def lenZ(l:List ByteArray):Nat:=(l.map ByteArray.size).sum
theorem lenZ_take{l:List ByteArray}{k:Nat}{x:ByteArray}(h:l[k]?=some x):lenZ (l.take (k+1))=lenZ (l.take k)+x.size:=by
 obtain⟨hk,he⟩:=List.getElem?_eq_some_iff.1 h
 unfold lenZ
 rw[List.take_succ_eq_append_getElem hk,he,List.map_append,List.sum_append];rfl
theorem lenZ_le(l:List ByteArray)(k:Nat):lenZ (l.take k)≤lenZ l:=by
 unfold lenZ
 conv=>rhs;rw[←List.take_append_drop k l]
 rw[List.map_append,List.sum_append];omega
theorem lenZ_n{n:Nat}{l:List ByteArray}(h:∀x∈l,x.size≤n):lenZ l≤n*l.length:=by
 induction l with
 |nil=>exact Nat.le_refl _
 | cons a r ih=>
   have h1:=ih fun x hx=>h x (List.mem_cons_of_mem _ hx)
   have h2:=h a (List.mem_cons_self ..)
   have:lenZ (a::r)=a.size+lenZ r:=rfl
   rw[this,lc1,Nat.mul_succ]
   omega
open Go.In
theorem noz:NoZ Tryz.prog 256 5:=NoZ.of (ps:=#[3]) (t:=22) Tryz.func256 (by kernel_rfl) (by kernel_rfl) (by kernel_rfl) (by kernel_rfl) Tryz.underlying22
theorem grow_fn(b n:Nat)(hn:n≤1000000):
    Does Tryz.prog 245 [pv b,nv n] [box b [pv b, .slice none 0 0] 150] (fun v Γ'=>∃(b2 q2:Nat),v= .tuple #[]∧Γ'=[box b [pv b, .slice (some ⟨b2,0,none⟩) 0 q2] 150,rows encBy 5 1 (some ⟨b2,0,none⟩) q2 ([]:List UInt8)]):=by
 refine Does.enter Tryz.func245 rfl Tryz.ntmps245 rfl (fun w0=>?_)
 refine To.s (To.flow [box b [pv b, .slice none 0 0] 150] [⟨0,[],0⟩,⟨1,[],0⟩,⟨2,[],0⟩,⟨3,[],0⟩,⟨4,[],0⟩,⟨5,[],0⟩,⟨6,[],0⟩,⟨7,[],0⟩,⟨9,[],0⟩,⟨10,[],0⟩,⟨11,[],0⟩,⟨12,[],0⟩,⟨13,[],0⟩,⟨8,[],2⟩,⟨14,[8],0⟩,⟨15,[8],0⟩] mixed (by kernel_rfl) (ocs (oca 0 rfl) (ocn _)) ?_)
 refine To.z 4 ?_
 refine Fw.f rfl (Rd.cap rfl Tryz.underlying22 rfl) ?_
 refine Fw.f rfl (Rd.as (v':=nv 0) rfl (Rd.mul64 (m:=2) (n:=((0:Nat):Int)) rfl rfl rfl (by decide))) ?_
 refine Fw.mo ?_
 refine Fw.f rfl (Rd.as (v':=nv n) (congrArg (Value.int .i64) (by omega)) (Rd.add64 (m:=((0:Nat):Int)) (n:=((n:Nat):Int)) rfl rfl rfl (by omega))) ?_
 refine To.z 5 ?_
 refine Fw.mk rfl rfl rfl rfl rfl (Mk.noZero (n:=n) rfl noz rfl (by omega)) ?_
 rintro _ _ ⟨b2,q2,rfl,rfl,hq2⟩
 refine Fw.f rfl (Rd.sliceHi (hi:=0) rfl s22 rfl rfl (Nat.zero_le _)) ?_
 refine To.z 10 ?_
 refine To.r (Rd.copyNone rfl Tryz.underlying22 (by kernel_rfl) rfl rfl rfl) ?_
 refine To.z 9 ?_
 refine To.up1 (To.end0 (.inr rfl) Tryz.results245 ?_)
 exact⟨b2,q2,rfl,rfl⟩
theorem Grow_fn(b n:Nat)(hn:n≤1000000)(hp:0<n):
    Does Tryz.prog 236 [pv b,nv n] [box b [.pointer none, .slice none 0 0] 150] (fun v Γ'=>∃(b2 q2:Nat),v= .tuple #[]∧Γ'=[box b [pv b, .slice (some ⟨b2,0,none⟩) 0 q2] 150,rows encBy 5 1 (some ⟨b2,0,none⟩) q2 ([]:List UInt8)]):=by
 refine Does.enter Tryz.func236 rfl Tryz.ntmps236 rfl (fun w0=>?_)
 refine To.z 3 ?_
 refine To.cl [0] rfl rfl rfl (Ent.fn rfl rfl ca97) rfl (cc_fn b (.pointer none) (.inl rfl) none 0 0) ?_
 rintro _ _ ⟨rfl,rfl⟩
 refine To.z 9 ?_
 refine To.cp rfl (fun c7=>?_) (fun c7=>?_)
 exact absurd c7 (by omega)
 refine To.z 3 ?_
 refine To.flow [box b [pv b, .slice none 0 0] 150] [⟨0,[],0⟩,⟨1,[],0⟩,⟨2,[],0⟩,⟨3,[],0⟩,⟨4,[],0⟩,⟨5,[],0⟩,⟨6,[],0⟩,⟨7,[],0⟩,⟨8,[],0⟩,⟨9,[],0⟩,⟨10,[],0⟩,⟨11,[],0⟩,⟨12,[],0⟩] mixed (by kernel_rfl) (ocs (oca 0 rfl) (ocn _)) ?_
 refine To.z 4 ?_
 refine Fw.f rfl (Rd.cap rfl Tryz.underlying22 rfl) ?_
 refine To.z 5 ?_
 refine Fw.f rfl (Rd.as (v':=nv 0) rfl (Rd.sub64 (m:=((0:Nat):Int)) (n:=((0:Nat):Int)) rfl rfl rfl (by decide))) ?_
 refine To.z 4 ?_
 refine To.cp rfl (fun c21=>?_) (fun c21=>?_)
 refine To.z 3 ?_
 refine To.cl [0] rfl rfl rfl (Ent.fn rfl rfl ca245) rfl (grow_fn b n hn) ?_
 rintro _ _ ⟨b2,q2,rfl,rfl⟩
 refine To.n (To.end0 (.inr rfl) Tryz.results236 ?_)
 exact⟨b2,q2,rfl,rfl⟩
 exact absurd c21 (by omega)
open Go.RowKit Go.Flow Go.Mem Go.Sep Go.In
theorem wsy_fn(b:Nat)(A:Option Addr)(q:Nat)(T:List UInt8)(s:ByteArray)(hl:T.length+s.size≤140737488355328):Does Tryz.prog 53 [pv b, .string s] [box b [pv b, .slice A T.length q] 150,rows encBy 5 1 A q T] (fun v Γ'=>∃(A':Option Addr) (q':Nat) (T':List UInt8) (n:Nat),v= .tuple #[nv n, .nilIface]∧Γ'=[box b [pv b, .slice A' T'.length q'] 150,rows encBy 5 1 A' q' T']∧T'.length=T.length+s.size):=
 (ws_fn b _ (.inr rfl) A q T s.data.toList hl).mono fun v Γ' ⟨A',q',h1,h2⟩=>⟨A',q',_,_,h1,h2,lap⟩
theorem max_quo{m:Int}(h1:1≤m)(h2:m≤1000):3≤9223372036854775807/m:=Int.le_ediv_of_mul_le (by omega) (by omega)
theorem lenZ_1{l:List ByteArray}{x:ByteArray}(h:l[0]?=some x):x.size≤lenZ l:=by
 cases l with
 |nil=>cases h
 |cons a r=>cases h;show _≤x.size+lenZ r;omega
set_option maxHeartbeats 4000000 in
set_option maxRecDepth 100000 in
theorem join_fn(A:Option Addr)(q:Nat)(l:List ByteArray)(hl:l.length≤100)(hq:l.length≤q)(hz:lenZ l≤500000):
    Does Tryz.prog 209 [.slice A l.length q, .string (bytesOf [44,32])] [ros encZ A l] (fun v Γ'=>∃s:ByteArray,v= .string s∧Γ'=[]∧s.size≤lenZ l+2*l.length):=by
 have hs2:(bytesOf [44,32]).size=2:=rfl
 refine Does.enter Tryz.func209 rfl Tryz.ntmps209 rfl (fun w0=>?_)
 refine To.z 19 ?_
 refine To.cp rfl (fun k13=>?_) (fun k13=>?_)
 refine To.z 8 ?_
 refine To.del0 (To.end1 (.inl rfl) Tryz.results209 rfl ?_)
 exact⟨nE,rfl,rfl,Nat.zero_le _⟩
 refine To.z 6 ?_
 refine To.cp rfl (fun k15=>?_) (fun k15=>?_)
 refine To.s ?_
 obtain⟨x0,h0⟩:∃z0,l[0]?=some z0:=⟨l[0]'(by omega),gge _⟩
 refine To.z 10 ?_
 refine To.del0 (To.end1 (.inl rfl) Tryz.results209 rfl ?_)
 exact⟨x0,rfl,rfl,by have:=lenZ_1 h0;omega⟩
 refine To.z 12 ?_
 refine To.r (Rd.as (v':=nv 2) rfl (Rd.lenB (s:=[44,32]) rfl Tryz.underlying9 rfl)) ?_
 refine To.z 8 ?_
 refine To.r (Rd.as (v':=nv 2) rfl (Rd.lenB (s:=[44,32]) rfl Tryz.underlying9 rfl)) ?_
 refine To.z 2 ?_
 refine To.r (Rd.sub64 rfl rfl rfl (by omega)) ?_
 refine To.r (Rd.quo64 rfl rfl rfl (by omega) (by omega) (by omega)) ?_
 refine To.z 3 ?_
 refine To.cp rfl (fun k29=>?_) (fun k29=>?_)
 exact absurd k29 (by have:=max_quo (m:=((l.length:Nat):Int)-1) (by omega) (by omega);omega)
 refine To.z 5 ?_
 refine To.r (Rd.as (v':=nv 2) rfl (Rd.lenB (s:=[44,32]) rfl Tryz.underlying9 rfl)) ?_
 refine To.z 2 ?_
 refine To.r (Rd.sub64 rfl rfl rfl (by omega)) ?_
 refine To.r (Rd.mul64 rfl rfl rfl (by omega)) ?_
 refine To.r (Rd.add64 rfl rfl rfl (by omega)) ?_
 refine To.z 12 ?_
 refine To.sub [(0, .slice A l.length q),(1, .string (bytesOf [44,32])),(5,nv ((2*(l.length-1)))),(39, .slice A l.length q),(40,nv l.length),(41,nv 0)] ⟨rfl,rfl,(congrArg (fun z=>some (Value.int .i64 z)) (by omega)),rfl,rfl,rfl,trivial⟩ ?_
 refine To.loop (fun mz ρ Γ=>∃(n:Nat) (k:Nat),ρ=[(0, .slice A l.length q),(1, .string (bytesOf [44,32])),(5,nv n),(39, .slice A l.length q),(40,nv l.length),(41,nv k)]∧Γ=[ros encZ A l]∧mz=l.length-k∧(k≤l.length)∧(n=2*(l.length-1)+lenZ (l.take k))) (l.length-0) ⟨(2*(l.length-1)),0,rfl,rfl,rfl,(Nat.zero_le _),rfl⟩ ?_
 rintro mz _ _ ⟨n,k,rfl,rfl,rfl,hk,hn⟩
 have hzk:=lenZ_le l k
 refine To.z 6 ?_
 refine To.cp rfl (fun k42=>?_) (fun k42=>?_)
 obtain⟨x,hx⟩:∃z0,l[k]?=some z0:=⟨l[k]'(by omega),gge _⟩
 have hz1:=lenZ_take hx
 have hz2:=lenZ_le l (k+1)
 refine To.z 15 ?_
 refine To.r (Rd.as (v':=nv x.size) rfl (Rd.lenT (a:=x.data.toList) rfl Tryz.underlying9 rfl)) ?_
 refine To.m ?_
 refine To.r (Rd.sub64 rfl rfl rfl (by omega)) ?_
 refine To.z 3 ?_
 refine To.cp rfl (fun k49=>?_) (fun k49=>?_)
 exact absurd k49 (by omega)
 refine To.z 5 ?_
 refine To.r (Rd.as (v':=nv x.size) rfl (Rd.lenT (a:=x.data.toList) rfl Tryz.underlying9 rfl)) ?_
 refine To.r (Rd.addN (a:=n) (b:=x.size) rfl rfl rfl (by omega)) ?_
 refine To.z 9 ?_
 refine To.sub [(0, .slice A l.length q),(1, .string (bytesOf [44,32])),(5,nv ((n+x.size))),(39, .slice A l.length q),(40,nv l.length),(41,nv ((k+1)))] ⟨rfl,rfl,rfl,rfl,rfl,rfl,trivial⟩ ?_
 refine To.ag (l.length-(k+1)) (by omega) ⟨(n+x.size),k+1,rfl,rfl,rfl,(by omega),(by rw[lenZ_take hx];omega)⟩
 refine To.z 7 ?_
 refine To.al fun b8=>?_
 refine To.z 5 ?_
 refine To.cl [0] rfl rfl rfl (Ent.fn rfl rfl ca236) rfl (Grow_fn b8 n (by omega) (by omega)) ?_
 rintro _ _ ⟨b2,q2,rfl,rfl⟩
 refine To.z 3 ?_
 obtain⟨x0,h0⟩:∃z0,l[0]?=some z0:=⟨l[0]'(by omega),gge _⟩
 have hz0:x0.size+lenZ (l.drop 1)=lenZ l:=by
  cases l with
  |nil=>cases h0
  |cons a r=>cases h0;rfl
 refine To.z 4 ?_
 refine To.cl [0,0] rfl rfl rfl (Ent.fn rfl rfl ca53) rfl (wsy_fn b8 (some ⟨b2,0,none⟩) q2 ([]:List UInt8) x0 (by first|(show _+x0.size≤_;omega)|(show 0+x0.size≤_;omega))) ?_
 rintro _ _ ⟨Aw,qw,Tw,nw,rfl,rfl,hw⟩
 refine To.z 4 ?_
 refine To.tailR encZ_ok q 1 2 rfl hq (by omega) ?_
 refine To.z 2 ?_
 refine To.r (Rd.as (v':= .slice (slAt A q 1 1) (l.drop 1).length (q-1)) (congrArg (fun z=>Value.slice (slAt A q 1 1) z (q-1)) List.length_drop.symm) (Rd.sliceLo (lo:=1) rfl s54 rfl rfl (by omega))) ?_
 refine To.z 5 ?_
 refine To.sub [(1, .string (bytesOf [44,32])),(8,pv b8),(63, .slice (slAt A q 1 1) ((l.drop 1).length) (q-1)),(64,nv ((l.drop 1).length)),(65,nv 0)] ⟨rfl,rfl,rfl,rfl,rfl,trivial⟩ ?_
 refine To.del3 (To.up2 (To.up2 ?_))
 refine To.loop (fun mz ρ Γ=>∃(Ab:Option Addr) (qb:Nat) (T:List UInt8) (j:Nat),ρ=[(1, .string (bytesOf [44,32])),(8,pv b8),(63, .slice (slAt A q 1 1) ((l.drop 1).length) (q-1)),(64,nv ((l.drop 1).length)),(65,nv j)]∧Γ=[box b8 [pv b8, .slice Ab T.length qb] 150,rows encBy 5 1 Ab qb T,ros encZ (slAt A q 1 1) (l.drop 1)]∧mz=(l.drop 1).length-j∧(j≤(l.drop 1).length)∧(T.length=x0.size+2*j+lenZ ((l.drop 1).take j))) ((l.drop 1).length-0) ⟨Aw,qw,Tw,0,rfl,rfl,rfl,(Nat.zero_le _),(by rw[hw];simp;rfl)⟩ ?_
 rintro mz _ _ ⟨Ab,qb,T,j,rfl,rfl,rfl,hj,hT⟩
 have hzj:=lenZ_le (l.drop 1) j
 have hdl:(l.drop 1).length=l.length-1:=List.length_drop
 refine To.z 6 ?_
 refine To.cp rfl (fun k66=>?_) (fun k66=>?_)
 obtain⟨x,hx⟩:∃z0,(l.drop 1)[j]?=some z0:=⟨(l.drop 1)[j]'(by omega),gge _⟩
 have hz1:=lenZ_take hx
 have hz2:=lenZ_le (l.drop 1) (j+1)
 refine To.z 14 ?_
 refine To.cl [0,0] rfl rfl rfl (Ent.fn rfl rfl ca53) rfl (wsy_fn b8 Ab qb T (bytesOf [44,32]) (by first|(show _+2≤_;omega)|(show 0+2≤_;omega))) ?_
 rintro _ _ ⟨Aw_2,qw_2,Tw_2,nw_2,rfl,rfl,hw_2⟩
 refine To.z 4 ?_
 refine To.cl [0,0] rfl rfl rfl (Ent.fn rfl rfl ca53) rfl (wsy_fn b8 Aw_2 qw_2 Tw_2 x (by first|(show _+x.size≤_;omega)|(show 0+x.size≤_;omega))) ?_
 rintro _ _ ⟨Aw_3,qw_3,Tw_3,nw_3,rfl,rfl,hw_3⟩
 refine To.z 8 ?_
 refine To.sub [(1, .string (bytesOf [44,32])),(8,pv b8),(63, .slice (slAt A q 1 1) ((l.drop 1).length) (q-1)),(64,nv ((l.drop 1).length)),(65,nv ((j+1)))] ⟨rfl,rfl,rfl,rfl,rfl,trivial⟩ ?_
 refine To.ag ((l.drop 1).length-(j+1)) (by omega) ⟨Aw_3,qw_3,Tw_3,j+1,rfl,rfl,rfl,(by omega),(by rw[lenZ_take hx];omega)⟩
 refine To.z 7 ?_
 refine To.cl [0,0] rfl rfl rfl (Ent.fn rfl rfl ca59) rfl ((st_fn b8 _ Ab qb T (by omega) (fun h=>by rw[h]at hT;simp at hT;omega)).bare) ?_
 rintro _ _ ⟨rfl,rfl⟩
 refine To.z 4 ?_
 refine To.del0 (To.end1 (.inl rfl) Tryz.results209 rfl ?_)
 exact⟨BA T,rfl,rfl,by rw[BA_size];omega⟩
end Go.Proofs.YtihgdnjkofpgiaaGreatDoor

/- Merged out of B1, B2, B3 by merge.py. Own text. -/
import Derived.Test.YtllalpnmagpkfaaGreatDoorGb
set_option linter.unusedVariables false
set_option linter.unusedSimpArgs false
set_option maxHeartbeats 2000000
set_option maxRecDepth 100000
namespace Go.Proofs.YtllalpnmagpkfaaGreatDoor
open Go.Proofs.Tryz
open Go.RowKit Go.Flow Go.Mem Go.Sep Go.In
theorem strOf_go(l:List Nat):∀s:ByteArray,(l.map fun n:Nat=>(n:Int)).foldl (fun r n=>r.push (UInt8.ofNat n.toNat)) s=s++bytesOf l:=by
 induction l with
 |nil=>intro s;exact(ByteArray.append_empty).symm
 | cons a r ih=>
   intro s
   rw[List.map_cons,List.foldl_cons,ih]
   show s.push (UInt8.ofNat ((a:Int).toNat))++bytesOf r=s++bytesOf (a::r)
   have hp:s.push (UInt8.ofNat a)=s++bytesOf [a]:=by
    cases s with
    |mk d=>exact(show(⟨d.push (UInt8.ofNat a)⟩:ByteArray)=⟨d⟩++⟨#[UInt8.ofNat a]⟩ by rw[ByteArray.mk_append_mk];exact congrArg ByteArray.mk (Array.ext' (by simp)))
   rw[Int.toNat_natCast,show bytesOf (a::r)=bytesOf [a]++bytesOf r from(bytes_add [a] r).symm,←ByteArray.append_assoc,hp]
theorem strOf_bytes(l:List Nat):strOf l=bytesOf l:=by
 unfold strOf;rw[strOf_go];exact ByteArray.empty_append
structure Mr where
 ints:Nat
 tables:Nat
 flags:Nat
 own:Nat
 Aa:OA
 qa:Nat
 ars:List Ar
 np:Nat
abbrev cM(m:Mr)(r:List Value):List Value:=nv m.ints::nv m.tables::nv m.flags::nv m.own::vs m.Aa m.ars m.qa::nv m.np::r
def Mr.ct(m:Mr):Ct:=⟨m.ints,m.tables,m.flags,m.own,m.ars.map Ar.l⟩
theorem least_fn(x y:Nat):
    Dz 58 [nv x,nv y] [] (fun v _=>v=nv (min x y)):=by
 refine Does.en func58 ntmps58 fun w0=>?_
 refine To.z 13 ?_
 refine To.cp rfl (fun c7=>?_) (fun c7=>?_)
 refine To.z 8 ?_
 refine To.e1 results58 ?_
 exact congrArg (Value.int .i64) om
 refine To.z 9 ?_
 refine To.e1 results58 ?_
 exact congrArg (Value.int .i64) om
theorem names_fn(c n:Nat)(hc:c<256)(hn:n≤10):
    Dz 59 [.int .u8 ((c:Nat):Int),nv n] [] (fun v Γ'=>∃(A:OA) (q:Nat),v= .slice A (nms c n).length q∧Γ'=[rows encZ 9 1 A q (nms c n)]∧(0<n→A=some ⟨blk A,ofs A,none⟩)):=by
 refine Does.en func59 ntmps59 fun w0=>?_
 refine To.z 17 ?_
 refine To.nilRow (encZ) 9 1 (To.only [0] rfl (To.loopS (fun mz ρ Γ=>∃(Ao:OA) (qo:Nat) (O:List ByteArray) (k:Nat),ρ=[(0, .int .u8 ((c:Nat):Int)),(1,nv n),(5,vs Ao O qo),(6,nv k)]∧Γ=[rows encZ 9 1 Ao qo O]∧mz=n-k∧(k≤n)∧(O=nms c k)) (n-0) ⟨⟨none,0,([]:List ByteArray),0,rfl,rfl,rfl,(Nat.zero_le _),rfl⟩,sb⟩ ?_))
 rintro mz _ _ ⟨Ao,qo,O,k,rfl,rfl,rfl,hk,hO⟩
 have hOl:O.length=k:=by rw[hO,nms_len]
 refine To.z 8 ?_
 refine To.cp rfl (fun c9=>?_) (fun c9=>?_)
 refine To.z 8 ?_
 refine To.r (Rd.addN (a:=48) (b:=k) rfl rfl rfl om) ?_
 refine To.r (Rd.conv rfl rfl underlying3 underlying5 (IntWalk.u8_in _ om)) ?_
 refine To.mk rfl rfl rfl (Mk.sN (us:=[.int .u8 ((c:Nat):Int), .int .u8 ((48+k:Nat):Int)]) rfl s22 rfl rfl rfl rfl rfl rfl) ?_
 rintro _ _ ⟨b17,rfl,rfl⟩
 refine To.r (Rd.as (v':= .string (nm c k)) (congrArg Value.string (strOf_bytes _)) (Rd.bytesStr (l:=[c,48+k]) rfl underlying22 underlying5 underlying9 rfl (oks_row 0 rfl))) ?_
 refine To.mk rfl rfl rfl (Mk.sN (us:=[.string (nm c k)]) rfl s74 rfl rfl rfl rfl rfl rfl) ?_
 rintro _ _ ⟨b19,rfl,rfl⟩
 refine To.ge rfl rfl rfl (Ge.append1 encZ_ok (i:=2) (j:=0) (el:=(nm c k)) rfl s74 rfl rfl rfl rfl rfl om om) ?_
 rintro _ _ ⟨A20,q20,rfl,rfl⟩
 refine To.z 10 ?_
 refine To.only [2] rfl (To.agS (n-(k+1)) om ⟨⟨A20,q20,(O++[(nm c k)]),k+1,rfl,rfl,rfl,om,(by rw[nms_succ,hO])⟩,sb⟩)
 refine To.z 12 ?_
 refine To.know (p:=0<O.length→Ao=some ⟨blk Ao,ofs Ao,none⟩) (fun w hw h0=>rows_some encZ_ok (by decide) h0 0 rfl hw) (fun hA=>?_)
 refine To.only [0] rfl (To.e1 results59 ?_)
 have e:k=n:=om
 subst e
 subst hO
 exact⟨_,_,rfl,rfl,fun h0=>hA (by rw[nms_len];exact h0)⟩
theorem next_fn(b:Nat)(m:Mr)(B:OA)(q:Nat)(bl:List Nat)(left:Nat)(n:Nat)(hb:okB bl q)(hn:0<n):
    Dz 176 [pv b,nv n] [box b [nv m.ints,nv m.tables,nv m.flags,nv m.own,vs m.Aa m.ars m.qa,nv m.np,vs B bl q,nv left] 206,ros encY B bl] (fun v Γ'=>∃(k:Nat) (B':OA) (q':Nat) (bl':List Nat),v=nv k∧Γ'=[box b [nv m.ints,nv m.tables,nv m.flags,nv m.own,vs m.Aa m.ars m.qa,nv m.np,vs B' bl' q',nv left] 206,ros encY B' bl']∧k<n∧okB bl' q'):=by
 refine Does.en func176 ntmps176 fun w0=>?_
 refine To.z 16 ?_
 refine To.cp rfl (fun c11=>?_) (fun c11=>?_)
 refine To.z 7 ?_
 refine To.only [0,0] rfl (To.e1 results176 ?_)
 exact⟨0,_,_,_,rfl,rfl,hn,hb⟩
 refine To.z 3 ?_
 have hpos:0<bl.length:=om
 obtain⟨x,hx⟩:=exg bl 0 om
 have hx2:=hb.1 x (mog hx)
 have hq2:=hb.2
 refine To.z 7 ?_
 refine To.r (Rd.conv rfl rfl underlying5 underlying3 (IntWalk.i64_in _ om)) ?_
 refine To.z 10 ?_
 refine To.r (Rd.as (v':= .slice (slAt B q 1 1) (bl.drop 1).length (q-1)) (congrArg (fun z=>Value.slice (slAt B q 1 1) z (q-1)) (List.length_drop).symm) (Rd.sliceLo (lo:=1) rfl s22 rfl rfl om)) ?_
 refine To.z 6 ?_
 refine To.tailR encY_ok q 1 1 rfl hb.2 om (To.z 3 ?_)
 refine To.r (Rd.remN (a:=x) (b:=n) rfl rfl rfl om) ?_
 refine To.z 4 ?_
 refine To.only [1,0] rfl (To.e1 results176 ?_)
 exact⟨x%n,_,_,_,rfl,rfl,Nat.mod_lt _ hn,hb.drop 1⟩
theorem integer_fn(b:Nat)(m:Mr)(B:OA)(q:Nat)(bl:List Nat)(left:Nat)(hb:okB bl q)(hmi:1≤m.ints∧m.ints≤3):
    Dz 213 [pv b] [box b [nv m.ints,nv m.tables,nv m.flags,nv m.own,vs m.Aa m.ars m.qa,nv m.np,vs B bl q,nv left] 206,ros encY B bl] (fun v Γ'=>∃(k:Nat) (B':OA) (q':Nat) (bl':List Nat),v= .string (nm 120 k)∧Γ'=[box b [nv m.ints,nv m.tables,nv m.flags,nv m.own,vs m.Aa m.ars m.qa,nv m.np,vs B' bl' q',nv left] 206,ros encY B' bl']∧k<m.ints∧okB bl' q'):=by
 refine Does.en func213 ntmps213 fun w0=>?_
 refine To.z 6 ?_
 refine To.flow [] [⟨1,[],0⟩,⟨2,[],0⟩,⟨3,[],0⟩,⟨4,[],0⟩,⟨0,[],4⟩,⟨5,[],1⟩,⟨6,[0],5⟩,⟨7,[],1⟩,⟨8,[],1⟩,⟨9,[],0⟩] mixed (by kernel_rfl) (ocn _) (To.z 4 ?_)
 refine Fw.callM rfl rfl rfl rfl rfl (Ent.fn rfl rfl ca59) (names_fn 120 3 om om) rfl (ocn _) ?_
 rintro _ _ ⟨An,qn,rfl,rfl,hAn⟩
 refine⟨rfl,?_⟩
 refine To.z 1 ?_
 refine Fw.call [1,1] rfl rfl rfl rfl (Ent.fn rfl rfl ca176) rfl (next_fn b m B q bl left m.ints hb om) ?_
 rintro _ _ ⟨k,Bn,qn_2,bln,rfl,rfl,hk,hbn⟩
 refine⟨ocn _,?_⟩
 refine Fw.r rfl (Rd.ixr (i:=2) (j:=k) rfl rfl rfl s74 rfl (nms_get om)) ?_
 refine Fw.r rfl (Rd.ld (i:=2) rfl rfl c9 rfl (gives_1 (rwg encZ_ok (nms_get om)) rfl)) ?_
 refine To.z 4 ?_
 refine To.only [0,0] rfl (To.e1 results213 ?_)
 exact⟨_,_,_,_,rfl,rfl,hk,hbn⟩
def lsE(A:OA)(l:List Ex):List Chunk:=ros encE A l::Ex.kidsL encE l
def lsS(A:OA)(l:List St):List Chunk:=ros encS A l::St.kidsL encE encS l
theorem lsE_one(A:OA)(a:Ex):lsE A [a]=ros encE A [a]::lsE a.A a.args:=by
 show ros encE A [a]::(a.kids encE++[])=_;rw[List.append_nil,Ex.kids_eq];rfl
theorem lsE_two(A:OA)(a b:Ex):lsE A [a,b]=ros encE A [a,b]::(lsE a.A a.args++lsE b.A b.args):=by
 show ros encE A [a,b]::(a.kids encE++(b.kids encE++[]))=_;rw[List.append_nil,Ex.kids_eq,Ex.kids_eq];rfl
theorem kidsE_push(O:List Ex)(e:Ex):Ex.kidsL encE (O++[e])=Ex.kidsL encE O++lsE e.A e.args:=by
 rw[Ex.kidsL_map,Ex.kidsL_map,List.flatMap_append]
 show _++(e.kids encE++[])=_
 rw[List.append_nil,Ex.kids_eq];rfl
theorem kidsS_push(O:List St)(e:St):St.kidsL encE encS (O++[e])=St.kidsL encE encS O++e.kids encE encS:=by
 rw[St.kidsL_map,St.kidsL_map,List.flatMap_append]
 show _++(e.kids encE encS++[])=_
 rw[List.append_nil]
section
variable{C:Cx}{ρ:Slots}{Γ:List Chunk}{K:Act→World→Prop}{A:OA}{ty:TypeId}{q:Nat}
theorem ros_none{α:Type}(f:α→List Value)(w:World):(ros f none []).holds w:= .inl rfl
theorem To.freeE(k:To C ρ (all (lsE none [])::Γ) K):To C ρ Γ K:=To.free (c:=all (lsE none [])) rfl rfl (fun w=>sat_of_oks rfl fun c hc=>by rw[List.mem_singleton.1 hc];exact ros_none _ w) k
theorem To.freeS(k:To C ρ (all (lsS none [])::Γ) K):To C ρ Γ K:=To.free (c:=all (lsS none [])) rfl rfl (fun w=>sat_of_oks rfl fun c hc=>by rw[List.mem_singleton.1 hc];exact ros_none _ w) k
theorem To.exprs1(a:Ex)(k:To C ρ (all (lsE A [a])::Γ) K):To C ρ (all (lsE a.A a.args)::rows encE ty 4 A q [a]::Γ) K:=
 To.perm (List.Perm.swap _ _ _) (To.layRow (To.allCons (by rw[←lsE_one];exact k)))
theorem To.exprs2(a b:Ex)(k:To C ρ (all (lsE A [a,b])::Γ) K):To C ρ (all (lsE a.A a.args)::all (lsE b.A b.args)::rows encE ty 4 A q [a,b]::Γ) K:=
 To.allApp (To.perm (List.Perm.swap _ _ _) (To.layRow (To.allCons (by rw[←lsE_two];exact k))))
theorem To.kidsE(O:List Ex)(e:Ex)(k:To C ρ (all (Ex.kidsL encE (O++[e]))::Γ) K):To C ρ (all (lsE e.A e.args)::all (Ex.kidsL encE O)::Γ) K:=
 To.perm (List.Perm.swap _ _ _) (To.allApp (by rw[←kidsE_push];exact k))
theorem To.kidsS(O:List St)(e:St)(k:To C ρ (all (St.kidsL encE encS (O++[e]))::Γ) K):To C ρ (all (e.kids encE encS)::all (St.kidsL encE encS O)::Γ) K:=
 To.perm (List.Perm.swap _ _ _) (To.allApp (by rw[←kidsS_push];exact k))
theorem To.layE(l:List Ex)(k:To C ρ (all (lsE A l)::Γ) K):To C ρ (rows encE ty 4 A q l::all (Ex.kidsL encE l)::Γ) K:=To.layRow (To.allCons k)
theorem To.layS(l:List St)(k:To C ρ (all (lsS A l)::Γ) K):To C ρ (rows encS ty 6 A q l::all (St.kidsL encE encS l)::Γ) K:=To.layRow (To.allCons k)
theorem To.nilE(k:To C ρ (all (Ex.kidsL encE [])::Γ) K):To C ρ Γ K:=To.allNil k
theorem To.nilS(k:To C ρ (all (St.kidsL encE encS [])::Γ) K):To C ρ Γ K:=To.allNil k
end
theorem number_step(b:Nat)(m:Mr)(hm:m.ct.Ok)(hnp:m.np≤2)(d:Nat)(hd:d≤3)(ih:d<3→∀(B:OA) (q:Nat) (bl:List Nat) (left:Nat),okB bl q→Dz 211 [pv b,nv (d+1)] [box b [nv m.ints,nv m.tables,nv m.flags,nv m.own,vs m.Aa m.ars m.qa,nv m.np,vs B bl q,nv left] 206,ros encY B bl] (fun v Γ'=>∃(e:Ex) (B':OA) (q':Nat) (bl':List Nat),v= .agg (encE e).toArray∧Γ'=[box b [nv m.ints,nv m.tables,nv m.flags,nv m.own,vs m.Aa m.ars m.qa,nv m.np,vs B' bl' q',nv left] 206,ros encY B' bl',all (lsE e.A e.args)]∧IntE m.ct m.np (3-(d+1)) e.pure∧okB bl' q'))(B:OA)(q:Nat)(bl:List Nat)(left:Nat)(hb:okB bl q):
    Dz 211 [pv b,nv d] [box b [nv m.ints,nv m.tables,nv m.flags,nv m.own,vs m.Aa m.ars m.qa,nv m.np,vs B bl q,nv left] 206,ros encY B bl] (fun v Γ'=>∃(e:Ex) (B':OA) (q':Nat) (bl':List Nat),v= .agg (encE e).toArray∧Γ'=[box b [nv m.ints,nv m.tables,nv m.flags,nv m.own,vs m.Aa m.ars m.qa,nv m.np,vs B' bl' q',nv left] 206,ros encY B' bl',all (lsE e.A e.args)]∧IntE m.ct m.np (3-d) e.pure∧okB bl' q'):=by
 have hmi:1≤m.ints∧m.ints≤3:=hm.ints
 have hmt:m.tables≤1:=hm.tables
 refine Does.en func211 ntmps211 fun w0=>?_
 refine To.s (To.g (To.al fun b4=>?_))
 refine To.z 5 ?_
 refine To.cl [1,1] rfl rfl rfl (Ent.fn rfl rfl ca176) rfl (next_fn b m B q bl left 12 hb om) ?_
 rintro _ _ ⟨k,Bn,qn,bln,rfl,rfl,hk,hbn⟩
 refine To.z 7 ?_
 refine To.meet (T:=Bool) (fun t=>([(0,pv b),(1,nv d),(4,pv b4),(5,nv k),(10, .bool t)],[box b [nv m.ints,nv m.tables,nv m.flags,nv m.own,vs m.Aa m.ars m.qa,nv m.np,vs Bn bln qn,nv left] 206,ros encY Bn bln,box b4 [.int .i64 0, .string bE, .int .i64 0, .slice none 0 0] 125])) (fun t=>t=((decide (((k:Nat):Int)<2))||((decide (2<((d:Nat):Int)))&&decide (5<((k:Nat):Int))))) ?_ (fun t ht=>?_)
 refine To.z 2 ?_
 refine To.rdP rfl rfl rfl (Rd.move rfl rfl) (fun g13=>?_) (fun g13=>?_)
 refine To.z 10 ?_
 refine To.he true (by first|(simp[g13];done)|(simp[g13];omega)) sb rfl
 refine To.z 2 ?_
 refine To.rdP rfl rfl rfl (Rd.move rfl rfl) (fun g16=>?_) (fun g16=>?_)
 refine To.z 7 ?_
 refine To.he (decide (5<((k:Nat):Int))) (by first|(simp[g13,g16];done)|(simp[g13,g16];omega)) sb rfl
 refine To.z 7 ?_
 refine To.he false (by first|(simp[g13,g16];done)|(simp[g13,g16];omega)) sb rfl
 subst ht
 dsimp only
 refine To.cond rfl (fun c10=>?_) (fun c10=>?_)
 simp only[Bool.or_eq_false_iff,Bool.and_eq_false_iff,Bool.or_eq_true,Bool.and_eq_true,decide_eq_true_eq,decide_eq_false_iff_not]at c10
 refine To.z 3 ?_
 refine To.cl [0,0] rfl rfl rfl (Ent.fn rfl rfl ca176) rfl (next_fn b m Bn qn bln left 9 hbn om) ?_
 rintro _ _ ⟨k_2,Bn_2,qn_2,bln_2,rfl,rfl,hk_2,hbn_2⟩
 refine To.r (Rd.build (vs:=[(0, .int .i64 1),(2,nv k_2)]) (cells:=[.int .i64 1, .string bE,nv k_2, .slice none 0 0]) rfl rfl rfl (by kernel_rfl)) ?_
 refine To.z 6 ?_
 refine To.freeE (To.endC [1,1,0] rfl (.inl rfl) results211 rfl (i:=3) rfl r125 rfl ?_)
 exact⟨(⟨1,bE,((k_2:Nat):Int),none,0,[]⟩:Ex),_,_,_,rfl,rfl, .num _ _ hk_2,hbn_2⟩
 simp only[Bool.or_eq_false_iff,Bool.and_eq_false_iff,Bool.or_eq_true,Bool.and_eq_true,decide_eq_true_eq,decide_eq_false_iff_not]at c10
 refine To.s (To.g (To.meet (T:=Bool) (fun t=>([(0,pv b),(1,nv d),(4,pv b4),(5,nv k),(24, .bool t)],[box b [nv m.ints,nv m.tables,nv m.flags,nv m.own,vs m.Aa m.ars m.qa,nv m.np,vs Bn bln qn,nv left] 206,ros encY Bn bln,box b4 [.int .i64 0, .string bE, .int .i64 0, .slice none 0 0] 125])) (fun t=>t=((decide (((k:Nat):Int)<4))||((decide (((k:Nat):Int)=4))&&decide (((m.np:Nat):Int)=0)))) ?_ (fun t ht=>?_)))
 refine To.z 2 ?_
 refine To.rdP rfl rfl rfl (Rd.move rfl rfl) (fun g27=>?_) (fun g27=>?_)
 refine To.z 13 ?_
 refine To.he true (by first|(simp[g27];done)|(simp[g27];omega)) sb rfl
 refine To.z 2 ?_
 refine To.rdP rfl rfl rfl (Rd.move rfl rfl) (fun g30=>?_) (fun g30=>?_)
 refine To.z 10 ?_
 refine To.he (decide (((m.np:Nat):Int)=0)) (by first|(simp[g27,g30];done)|(simp[g27,g30];omega)) sb rfl
 refine To.z 10 ?_
 refine To.he false (by first|(simp[g27,g30];done)|(simp[g27,g30];omega)) sb rfl
 subst ht
 dsimp only
 refine To.cond rfl (fun c24=>?_) (fun c24=>?_)
 simp only[Bool.or_eq_false_iff,Bool.and_eq_false_iff,Bool.or_eq_true,Bool.and_eq_true,decide_eq_true_eq,decide_eq_false_iff_not]at c24
 refine To.z 3 ?_
 refine To.cl [0,0] rfl rfl rfl (Ent.fn rfl rfl ca213) rfl (integer_fn b m Bn qn bln left hbn hmi) ?_
 rintro _ _ ⟨k_2,Bn_2,qn_2,bln_2,rfl,rfl,hk_2,hbn_2⟩
 refine To.r (Rd.build (vs:=[(0, .int .i64 5),(1, .string (nm 120 k_2))]) (cells:=[.int .i64 5, .string (nm 120 k_2), .int .i64 0, .slice none 0 0]) rfl rfl rfl (by kernel_rfl)) ?_
 refine To.z 6 ?_
 refine To.freeE (To.endC [1,1,0] rfl (.inl rfl) results211 rfl (i:=3) rfl r125 rfl ?_)
 exact⟨(⟨5,(nm 120 k_2),0,none,0,[]⟩:Ex),_,_,_,rfl,rfl, .var _ _ hk_2,hbn_2⟩
 simp only[Bool.or_eq_false_iff,Bool.and_eq_false_iff,Bool.or_eq_true,Bool.and_eq_true,decide_eq_true_eq,decide_eq_false_iff_not]at c24
 refine To.z 7 ?_
 refine To.cp rfl (fun c41=>?_) (fun c41=>?_)
 refine To.s (To.flow [] [⟨1,[],0⟩,⟨2,[],0⟩,⟨3,[],0⟩,⟨4,[],0⟩,⟨0,[],4⟩,⟨5,[],1⟩,⟨6,[0],5⟩,⟨7,[],1⟩,⟨8,[],1⟩,⟨9,[],0⟩,⟨10,[],5⟩] mixed (by kernel_rfl) (ocn _) (To.z 4 ?_))
 refine Fw.callM rfl rfl rfl rfl rfl (Ent.fn rfl rfl ca59) (names_fn 112 2 om om) rfl (ocn _) ?_
 rintro _ _ ⟨An,qn_2,rfl,rfl,hAn⟩
 refine⟨rfl,?_⟩
 refine To.z 1 ?_
 refine Fw.call [1,1] rfl rfl rfl rfl (Ent.fn rfl rfl ca176) rfl (next_fn b m Bn qn bln left m.np hbn om) ?_
 rintro _ _ ⟨k_2,Bn_2,qn_3,bln_2,rfl,rfl,hk_2,hbn_2⟩
 refine⟨ocn _,?_⟩
 refine Fw.r rfl (Rd.ixr (i:=2) (j:=k_2) rfl rfl rfl s74 rfl (nms_get om)) ?_
 refine Fw.r rfl (Rd.ld (i:=2) rfl rfl c9 rfl (gives_1 (rwg encZ_ok (nms_get om)) rfl)) ?_
 refine Fw.f rfl (Rd.build (vs:=[(0, .int .i64 5),(1, .string (nm 112 k_2))]) (cells:=[.int .i64 5, .string (nm 112 k_2), .int .i64 0, .slice none 0 0]) rfl rfl rfl (by kernel_rfl)) ?_
 refine Fw.up rfl rfl rfl (Up.storeS (i:=3) rfl rfl rfl r125 rfl rfl rfl (bta rfl)) (ocn _) ?_
 refine To.z 5 ?_
 refine To.freeE (To.endC [1,1,0] rfl (.inl rfl) results211 rfl (i:=4) rfl r125 rfl ?_)
 exact⟨(⟨5,(nm 112 k_2),0,none,0,[]⟩:Ex),_,_,_,rfl,rfl, .par _ _ hk_2,hbn_2⟩
 refine To.z 7 ?_
 refine To.cp rfl (fun c54=>?_) (fun c54=>?_)
 refine To.s (To.g (To.r (Rd.build (vs:=[(0, .int .i64 4)]) (cells:=[.int .i64 4, .string bE, .int .i64 0, .slice none 0 0]) rfl rfl rfl (by kernel_rfl)) ?_))
 refine To.z 6 ?_
 refine To.freeE (To.endC [1,1,0] rfl (.inl rfl) results211 rfl (i:=3) rfl r125 rfl ?_)
 exact⟨(⟨4,bE,0,none,0,[]⟩:Ex),_,_,_,rfl,rfl, .now _,hbn⟩
 refine To.s (To.g (To.meet (T:=Bool) (fun t=>([(0,pv b),(1,nv d),(4,pv b4),(5,nv k),(58, .bool t)],[box b [nv m.ints,nv m.tables,nv m.flags,nv m.own,vs m.Aa m.ars m.qa,nv m.np,vs Bn bln qn,nv left] 206,ros encY Bn bln,box b4 [.int .i64 0, .string bE, .int .i64 0, .slice none 0 0] 125])) (fun t=>t=((decide (((k:Nat):Int)=6))&&decide (0<((m.tables:Nat):Int)))) ?_ (fun t ht=>?_)))
 refine To.z 2 ?_
 refine To.rdP rfl rfl rfl (Rd.move rfl rfl) (fun g61=>?_) (fun g61=>?_)
 refine To.z 9 ?_
 refine To.he (decide (0<((m.tables:Nat):Int))) (by first|(simp[g61];done)|(simp[g61];omega)) sb rfl
 refine To.z 9 ?_
 refine To.he false (by first|(simp[g61];done)|(simp[g61];omega)) sb rfl
 subst ht
 dsimp only
 refine To.cond rfl (fun c58=>?_) (fun c58=>?_)
 simp only[Bool.or_eq_false_iff,Bool.and_eq_false_iff,Bool.or_eq_true,Bool.and_eq_true,decide_eq_true_eq,decide_eq_false_iff_not]at c58
 refine To.z 5 ?_
 refine To.cl [0,0] rfl rfl rfl (Ent.fn rfl rfl ca211) rfl (ih om Bn qn bln left hbn) ?_
 rintro _ _ ⟨e,Bn_2,qn_2,bln_2,rfl,rfl,he,hbn_2⟩
 refine To.mk rfl rfl rfl (Mk.sN (us:=(encE e)) rfl s123 rfl rfl rfl rfl rfl rfl) ?_
 rintro _ _ ⟨b72,rfl,rfl⟩
 refine To.r (Rd.build (vs:=[(0, .int .i64 6),(1, .string nT0),(3, .slice (some ⟨b72,0,none⟩) 1 1)]) (cells:=[.int .i64 6, .string nT0, .int .i64 0, .slice (some ⟨b72,0,none⟩) 1 1]) rfl rfl rfl (by kernel_rfl)) ?_
 refine To.z 6 ?_
 refine To.up3 (To.exprs1 (A:=(some ⟨b72,0,none⟩)) e (To.endC [1,1,0] rfl (.inl rfl) results211 rfl (i:=3) rfl r125 rfl ?_))
 exact⟨(⟨6,nT0,0,(some ⟨b72,0,none⟩),1,[e]⟩:Ex),_,_,_,rfl,rfl,(by rw[show 3-d=(3-(d+1))+1 from by omega];exact .get _ _ (show 0<m.tables by omega) he),hbn_2⟩
 simp only[Bool.or_eq_false_iff,Bool.and_eq_false_iff,Bool.or_eq_true,Bool.and_eq_true,decide_eq_true_eq,decide_eq_false_iff_not]at c58
 refine To.s (To.g (To.meet (T:=Bool) (fun t=>([(0,pv b),(1,nv d),(4,pv b4),(5,nv k),(74, .bool t)],[box b [nv m.ints,nv m.tables,nv m.flags,nv m.own,vs m.Aa m.ars m.qa,nv m.np,vs Bn bln qn,nv left] 206,ros encY Bn bln,box b4 [.int .i64 0, .string bE, .int .i64 0, .slice none 0 0] 125])) (fun t=>t=((decide (((k:Nat):Int)=7))&&decide (0<((m.tables:Nat):Int)))) ?_ (fun t ht=>?_)))
 refine To.z 2 ?_
 refine To.rdP rfl rfl rfl (Rd.move rfl rfl) (fun g77=>?_) (fun g77=>?_)
 refine To.z 9 ?_
 refine To.he (decide (0<((m.tables:Nat):Int))) (by first|(simp[g77];done)|(simp[g77];omega)) sb rfl
 refine To.z 9 ?_
 refine To.he false (by first|(simp[g77];done)|(simp[g77];omega)) sb rfl
 subst ht
 dsimp only
 refine To.cond rfl (fun c74=>?_) (fun c74=>?_)
 simp only[Bool.or_eq_false_iff,Bool.and_eq_false_iff,Bool.or_eq_true,Bool.and_eq_true,decide_eq_true_eq,decide_eq_false_iff_not]at c74
 refine To.s (To.g (To.r (Rd.build (vs:=[(0, .int .i64 8),(1, .string nT0)]) (cells:=[.int .i64 8, .string nT0, .int .i64 0, .slice none 0 0]) rfl rfl rfl (by kernel_rfl)) ?_))
 refine To.z 6 ?_
 refine To.freeE (To.endC [1,1,0] rfl (.inl rfl) results211 rfl (i:=3) rfl r125 rfl ?_)
 exact⟨(⟨8,nT0,0,none,0,[]⟩:Ex),_,_,_,rfl,rfl, .size _ (show 0<m.tables by omega),hbn⟩
 simp only[Bool.or_eq_false_iff,Bool.and_eq_false_iff,Bool.or_eq_true,Bool.and_eq_true,decide_eq_true_eq,decide_eq_false_iff_not]at c74
 refine To.z 7 ?_
 refine To.cp rfl (fun c85=>?_) (fun c85=>?_)
 refine To.z 5 ?_
 refine To.cl [0,0] rfl rfl rfl (Ent.fn rfl rfl ca211) rfl (ih om Bn qn bln left hbn) ?_
 rintro _ _ ⟨e,Bn_2,qn_2,bln_2,rfl,rfl,he,hbn_2⟩
 refine To.mk rfl rfl rfl (Mk.sN (us:=(encE e)) rfl s123 rfl rfl rfl rfl rfl rfl) ?_
 rintro _ _ ⟨b92,rfl,rfl⟩
 refine To.r (Rd.build (vs:=[(0, .int .i64 9),(3, .slice (some ⟨b92,0,none⟩) 1 1)]) (cells:=[.int .i64 9, .string bE, .int .i64 0, .slice (some ⟨b92,0,none⟩) 1 1]) rfl rfl rfl (by kernel_rfl)) ?_
 refine To.z 6 ?_
 refine To.up3 (To.exprs1 (A:=(some ⟨b92,0,none⟩)) e (To.endC [1,1,0] rfl (.inl rfl) results211 rfl (i:=3) rfl r125 rfl ?_))
 exact⟨(⟨9,bE,0,(some ⟨b92,0,none⟩),1,[e]⟩:Ex),_,_,_,rfl,rfl,(by rw[show 3-d=(3-(d+1))+1 from by omega];exact .neg _ _ he),hbn_2⟩
 refine To.z 5 ?_
 refine To.mk rfl rfl rfl (Mk.sN (us:=[.int .i64 14, .int .i64 15, .int .i64 11, .int .i64 12, .int .i64 13, .int .i64 14]) rfl s203 rfl rfl rfl rfl rfl rfl) ?_
 rintro _ _ ⟨b94,rfl,rfl⟩
 refine To.m ?_
 refine To.cl [1,1] rfl rfl rfl (Ent.fn rfl rfl ca176) rfl (next_fn b m Bn qn bln left 6 hbn om) ?_
 rintro _ _ ⟨k_2,Bn_2,qn_2,bln_2,rfl,rfl,hk_2,hbn_2⟩
 obtain⟨op,ho6⟩:∃z0,([14,15,11,12,13,14]:List Nat)[k_2]?=some z0:=⟨_,gge (show k_2<6 by omega)⟩
 have hop:11≤op∧op≤15:=by have:=mog ho6;simp only[List.mem_cons,List.not_mem_nil,or_false]at this;omega
 refine To.r (Rd.ixr (enc:=encN) (l:=[14,15,11,12,13,14]) (cap:=6) (i:=2) (j:=k_2) rfl rfl rfl s203 rfl ho6) ?_
 refine To.r (Rd.ld (i:=2) rfl rfl c3 rfl (gives_1 (rwg encN_ok ho6) rfl)) ?_
 refine To.z 8 ?_
 refine To.cl [0,0] rfl rfl rfl (Ent.fn rfl rfl ca211) rfl (ih om Bn_2 qn_2 bln_2 left hbn_2) ?_
 rintro _ _ ⟨e,Bn_3,qn_3,bln_3,rfl,rfl,he,hbn_3⟩
 refine To.al fun b7=>?_
 refine To.z 4 ?_
 refine To.flow [box b7 (encE e) 125] [⟨0,[],0⟩,⟨1,[],0⟩,⟨2,[],0⟩,⟨3,[],0⟩,⟨4,[],0⟩,⟨5,[],5⟩,⟨6,[],2⟩,⟨7,[6],0⟩,⟨8,[6],5⟩] mixed (by kernel_rfl) (ocs (oca 0 rfl) (ocn _)) (To.z 5 ?_)
 refine Fw.call [1,1] rfl rfl rfl rfl (Ent.fn rfl rfl ca211) rfl (ih om Bn_3 qn_3 bln_3 left hbn_3) ?_
 rintro _ _ ⟨e_2,Bn_4,qn_4,bln_4,rfl,rfl,he_2,hbn_4⟩
 refine⟨ocs (oca 3 rfl) (ocn _),?_⟩
 refine Fw.mk rfl rfl rfl rfl rfl (Mk.sN (us:=[nv e.op, .string e.name, .int .i64 e.n,vs e.A e.args e.q,nv e_2.op, .string e_2.name, .int .i64 e_2.n,vs e_2.A e_2.args e_2.q]) rfl s123 rfl rfl rfl rfl rfl rfl) ?_
 rintro _ _ ⟨b109,rfl,rfl⟩
 refine Fw.f rfl (Rd.build (vs:=[(0,nv op),(3, .slice (some ⟨b109,0,none⟩) 2 2)]) (cells:=[nv op, .string bE, .int .i64 0, .slice (some ⟨b109,0,none⟩) 2 2]) rfl rfl rfl (by kernel_rfl)) ?_
 refine Fw.up rfl rfl rfl (Up.storeS (i:=7) rfl rfl rfl r125 rfl rfl rfl (bta rfl)) (ocs (oca 4 rfl) (ocn _)) ?_
 refine To.z 3 ?_
 refine To.up3 (To.up5 (To.exprs2 (A:=(some ⟨b109,0,none⟩)) e e_2 (To.endC [1,1,0] rfl (.inl rfl) results211 rfl (i:=5) rfl r125 rfl ?_)))
 exact⟨(⟨op,bE,0,(some ⟨b109,0,none⟩),2,[e,e_2]⟩:Ex),_,_,_,rfl,rfl,(by rw[show 3-d=(3-(d+1))+1 from by omega];exact .bin _ _ _ _ hop he he_2),hbn_4⟩
theorem number_fn(b:Nat)(m:Mr)(hm:m.ct.Ok)(hnp:m.np≤2):∀(k d:Nat),d+k=3→∀(B:OA) (q:Nat) (bl:List Nat) (left:Nat),okB bl q→Dz 211 [pv b,nv d] [box b [nv m.ints,nv m.tables,nv m.flags,nv m.own,vs m.Aa m.ars m.qa,nv m.np,vs B bl q,nv left] 206,ros encY B bl] (fun v Γ'=>∃(e:Ex) (B':OA) (q':Nat) (bl':List Nat),v= .agg (encE e).toArray∧Γ'=[box b [nv m.ints,nv m.tables,nv m.flags,nv m.own,vs m.Aa m.ars m.qa,nv m.np,vs B' bl' q',nv left] 206,ros encY B' bl',all (lsE e.A e.args)]∧IntE m.ct m.np (3-d) e.pure∧okB bl' q')
 |0,d,h,B,q,bl,left,hb=>number_step b m hm hnp d om (fun h=>by omega) B q bl left hb
 |k+1,d,h,B,q,bl,left,hb=>number_step b m hm hnp d om (fun _=>number_fn b m hm hnp k (d+1) om) B q bl left hb
theorem numbers_fn(b:Nat)(m:Mr)(hm:m.ct.Ok)(hnp:m.np≤2)(n:Nat)(hn:n≤4)(B:OA)(q:Nat)(bl:List Nat)(left:Nat)(hb:okB bl q):
    Dz 212 [pv b,nv n] [box b [nv m.ints,nv m.tables,nv m.flags,nv m.own,vs m.Aa m.ars m.qa,nv m.np,vs B bl q,nv left] 206,ros encY B bl] (fun v Γ'=>∃(l:List Ex) (A:OA) (ql:Nat) (B':OA) (q':Nat) (bl':List Nat),v=vs A l ql∧Γ'=[box b [nv m.ints,nv m.tables,nv m.flags,nv m.own,vs m.Aa m.ars m.qa,nv m.np,vs B' bl' q',nv left] 206,ros encY B' bl',rows encE 125 4 A ql l,all (Ex.kidsL encE l)]∧l.length=n∧(∀x∈l,IntE m.ct m.np 2 x.pure)∧okB bl' q'):=by
 refine Does.en func212 ntmps212 fun w0=>?_
 refine To.z 17 ?_
 refine To.nilRow (encE) 125 4 (To.nilE (To.up1 (To.up3 (To.up3 (To.loopS (fun mz ρ Γ=>∃(Bk:OA) (qk:Nat) (blk:List Nat) (Ao:OA) (qo:Nat) (O:List Ex) (k:Nat),ρ=[(0,pv b),(1,nv n),(5,vs Ao O qo),(6,nv k)]∧Γ=[box b [nv m.ints,nv m.tables,nv m.flags,nv m.own,vs m.Aa m.ars m.qa,nv m.np,vs Bk blk qk,nv left] 206,ros encY Bk blk,rows encE 125 4 Ao qo O,all (Ex.kidsL encE O)]∧mz=n-k∧(k≤n)∧(O.length=k)∧(∀x∈O,IntE m.ct m.np 2 x.pure)∧(okB blk qk)) (n-0) ⟨⟨B,q,bl,none,0,([]:List Ex),0,rfl,rfl,rfl,(Nat.zero_le _),rfl,(fun x hx=>by cases hx),hb⟩,sb⟩ ?_)))))
 rintro mz _ _ ⟨Bk,qk,blk,Ao,qo,O,k,rfl,rfl,rfl,hk,hOl,hO,hbk⟩
 refine To.z 8 ?_
 refine To.cp rfl (fun c9=>?_) (fun c9=>?_)
 refine To.z 7 ?_
 refine To.cl [0,0] rfl rfl rfl (Ent.fn rfl rfl ca211) rfl (number_fn b m hm hnp 2 1 rfl Bk qk blk left hbk) ?_
 rintro _ _ ⟨e,Bn,qn,bln,rfl,rfl,he,hbn⟩
 refine To.mk rfl rfl rfl (Mk.sN (us:=(encE e)) rfl s123 rfl rfl rfl rfl rfl rfl) ?_
 rintro _ _ ⟨b15,rfl,rfl⟩
 refine To.ge rfl rfl rfl (Ge.append1 encE_ok (i:=4) (j:=0) (el:=e) rfl s123 rfl rfl rfl rfl rfl om om) ?_
 rintro _ _ ⟨A16,q16,rfl,rfl⟩
 refine To.z 4 ?_
 refine To.up5 (To.up4 (To.kidsE O e (To.z 6 ?_)))
 refine To.sub [(0,pv b),(1,nv n),(5, .slice A16 (O++[e]).length q16),(6,nv ((k+1)))] sb (To.del1 (To.up3 (To.up3 (To.up3 ?_))))
 refine To.ag (n-(k+1)) om ⟨Bn,qn,bln,A16,q16,(O++[e]),k+1,rfl,rfl,rfl,om,(by rw[lap,hOl];rfl),(fun x hx=>by
  rcases List.mem_append.1 hx with h0|h0
  ·exact hO x h0
  ·rw[List.mem_singleton.1 h0];exact he),hbn⟩
 refine To.z 12 ?_
 refine To.e1 results212 ?_
 exact⟨O,_,_,_,_,_,rfl,rfl,by omega,hO,hbk⟩
theorem truth_step(b:Nat)(m:Mr)(hm:m.ct.Ok)(hnp:m.np≤2)(d:Nat)(hd:d≤2)(ih:d<2→∀(B:OA) (q:Nat) (bl:List Nat) (left:Nat),okB bl q→Dz 210 [pv b,nv (d+1)] [box b [nv m.ints,nv m.tables,nv m.flags,nv m.own,vs m.Aa m.ars m.qa,nv m.np,vs B bl q,nv left] 206,ros encY B bl] (fun v Γ'=>∃(e:Ex) (B':OA) (q':Nat) (bl':List Nat),v= .agg (encE e).toArray∧Γ'=[box b [nv m.ints,nv m.tables,nv m.flags,nv m.own,vs m.Aa m.ars m.qa,nv m.np,vs B' bl' q',nv left] 206,ros encY B' bl',all (lsE e.A e.args)]∧TruE m.ct m.np (2-(d+1)) e.pure∧okB bl' q'))(B:OA)(q:Nat)(bl:List Nat)(left:Nat)(hb:okB bl q):
    Dz 210 [pv b,nv d] [box b [nv m.ints,nv m.tables,nv m.flags,nv m.own,vs m.Aa m.ars m.qa,nv m.np,vs B bl q,nv left] 206,ros encY B bl] (fun v Γ'=>∃(e:Ex) (B':OA) (q':Nat) (bl':List Nat),v= .agg (encE e).toArray∧Γ'=[box b [nv m.ints,nv m.tables,nv m.flags,nv m.own,vs m.Aa m.ars m.qa,nv m.np,vs B' bl' q',nv left] 206,ros encY B' bl',all (lsE e.A e.args)]∧TruE m.ct m.np (2-d) e.pure∧okB bl' q'):=by
 have hmi:1≤m.ints∧m.ints≤3:=hm.ints
 have hmt:m.tables≤1:=hm.tables
 have hmf:m.flags≤2:=hm.flags
 refine Does.en func210 ntmps210 fun w0=>?_
 refine To.s (To.g (To.al fun b4=>?_))
 refine To.z 5 ?_
 refine To.cl [1,1] rfl rfl rfl (Ent.fn rfl rfl ca176) rfl (next_fn b m B q bl left 10 hb om) ?_
 rintro _ _ ⟨k,Bn,qn,bln,rfl,rfl,hk,hbn⟩
 refine To.z 12 ?_
 refine To.cp rfl (fun c11=>?_) (fun c11=>?_)
 refine To.z 3 ?_
 refine To.cl [0,0] rfl rfl rfl (Ent.fn rfl rfl ca176) rfl (next_fn b m Bn qn bln left 2 hbn om) ?_
 rintro _ _ ⟨k_2,Bn_2,qn_2,bln_2,rfl,rfl,hk_2,hbn_2⟩
 refine To.r (Rd.addN (a:=2) (b:=k_2) rfl rfl rfl om) ?_
 refine To.r (Rd.build (vs:=[(0,nv (2+k_2))]) (cells:=[nv (2+k_2), .string bE, .int .i64 0, .slice none 0 0]) rfl rfl rfl (by kernel_rfl)) ?_
 refine To.z 6 ?_
 refine To.freeE (To.endC [1,1,0] rfl (.inl rfl) results210 rfl (i:=3) rfl r125 rfl ?_)
 exact⟨(⟨2+k_2,bE,0,none,0,[]⟩:Ex),_,_,_,rfl,rfl, .tf _ _ om,hbn_2⟩
 refine To.s (To.g (To.meet (T:=Bool) (fun t=>([(0,pv b),(1,nv d),(4,pv b4),(5,nv k),(18, .bool t)],[box b [nv m.ints,nv m.tables,nv m.flags,nv m.own,vs m.Aa m.ars m.qa,nv m.np,vs Bn bln qn,nv left] 206,ros encY Bn bln,box b4 [.int .i64 0, .string bE, .int .i64 0, .slice none 0 0] 125])) (fun t=>t=((decide (((k:Nat):Int)=1))||((decide (1<((d:Nat):Int)))&&decide (4<((k:Nat):Int))))) ?_ (fun t ht=>?_)))
 refine To.z 2 ?_
 refine To.rdP rfl rfl rfl (Rd.move rfl rfl) (fun g21=>?_) (fun g21=>?_)
 refine To.z 10 ?_
 refine To.he true (by first|(simp[g21];done)|(simp[g21];omega)) sb rfl
 refine To.z 2 ?_
 refine To.rdP rfl rfl rfl (Rd.move rfl rfl) (fun g24=>?_) (fun g24=>?_)
 refine To.z 7 ?_
 refine To.he (decide (4<((k:Nat):Int))) (by first|(simp[g21,g24];done)|(simp[g21,g24];omega)) sb rfl
 refine To.z 7 ?_
 refine To.he false (by first|(simp[g21,g24];done)|(simp[g21,g24];omega)) sb rfl
 subst ht
 dsimp only
 refine To.cond rfl (fun c18=>?_) (fun c18=>?_)
 simp only[Bool.or_eq_false_iff,Bool.and_eq_false_iff,Bool.or_eq_true,Bool.and_eq_true,decide_eq_true_eq,decide_eq_false_iff_not]at c18
 refine To.s (To.g (To.r (Rd.build (vs:=[(0, .int .i64 5),(1, .string nB0)]) (cells:=[.int .i64 5, .string nB0, .int .i64 0, .slice none 0 0]) rfl rfl rfl (by kernel_rfl)) ?_))
 refine To.z 6 ?_
 refine To.freeE (To.endC [1,1,0] rfl (.inl rfl) results210 rfl (i:=3) rfl r125 rfl ?_)
 exact⟨(⟨5,nB0,0,none,0,[]⟩:Ex),_,_,_,rfl,rfl, .b0 _,hbn⟩
 simp only[Bool.or_eq_false_iff,Bool.and_eq_false_iff,Bool.or_eq_true,Bool.and_eq_true,decide_eq_true_eq,decide_eq_false_iff_not]at c18
 refine To.s (To.g (To.meet (T:=Bool) (fun t=>([(0,pv b),(1,nv d),(4,pv b4),(5,nv k),(30, .bool t)],[box b [nv m.ints,nv m.tables,nv m.flags,nv m.own,vs m.Aa m.ars m.qa,nv m.np,vs Bn bln qn,nv left] 206,ros encY Bn bln,box b4 [.int .i64 0, .string bE, .int .i64 0, .slice none 0 0] 125])) (fun t=>t=((decide (((k:Nat):Int)=2))&&decide (0<((m.flags:Nat):Int)))) ?_ (fun t ht=>?_)))
 refine To.z 2 ?_
 refine To.rdP rfl rfl rfl (Rd.move rfl rfl) (fun g33=>?_) (fun g33=>?_)
 refine To.z 9 ?_
 refine To.he (decide (0<((m.flags:Nat):Int))) (by first|(simp[g33];done)|(simp[g33];omega)) sb rfl
 refine To.z 9 ?_
 refine To.he false (by first|(simp[g33];done)|(simp[g33];omega)) sb rfl
 subst ht
 dsimp only
 refine To.cond rfl (fun c30=>?_) (fun c30=>?_)
 simp only[Bool.or_eq_false_iff,Bool.and_eq_false_iff,Bool.or_eq_true,Bool.and_eq_true,decide_eq_true_eq,decide_eq_false_iff_not]at c30
 refine To.s (To.flow [] [⟨1,[],0⟩,⟨2,[],0⟩,⟨3,[],0⟩,⟨4,[],0⟩,⟨0,[],4⟩,⟨5,[],1⟩,⟨6,[0],5⟩,⟨7,[],1⟩,⟨8,[],1⟩,⟨9,[],0⟩,⟨10,[],5⟩] mixed (by kernel_rfl) (ocn _) (To.z 4 ?_))
 refine Fw.callM rfl rfl rfl rfl rfl (Ent.fn rfl rfl ca59) (names_fn 102 2 om om) rfl (ocn _) ?_
 rintro _ _ ⟨An,qn_2,rfl,rfl,hAn⟩
 refine⟨rfl,?_⟩
 refine To.z 1 ?_
 refine Fw.call [1,1] rfl rfl rfl rfl (Ent.fn rfl rfl ca176) rfl (next_fn b m Bn qn bln left m.flags hbn om) ?_
 rintro _ _ ⟨k_2,Bn_2,qn_3,bln_2,rfl,rfl,hk_2,hbn_2⟩
 refine⟨ocn _,?_⟩
 refine Fw.r rfl (Rd.ixr (i:=2) (j:=k_2) rfl rfl rfl s74 rfl (nms_get om)) ?_
 refine Fw.r rfl (Rd.ld (i:=2) rfl rfl c9 rfl (gives_1 (rwg encZ_ok (nms_get om)) rfl)) ?_
 refine Fw.f rfl (Rd.build (vs:=[(0, .int .i64 5),(1, .string (nm 102 k_2))]) (cells:=[.int .i64 5, .string (nm 102 k_2), .int .i64 0, .slice none 0 0]) rfl rfl rfl (by kernel_rfl)) ?_
 refine Fw.up rfl rfl rfl (Up.storeS (i:=3) rfl rfl rfl r125 rfl rfl rfl (bta rfl)) (ocn _) ?_
 refine To.z 5 ?_
 refine To.freeE (To.endC [1,1,0] rfl (.inl rfl) results210 rfl (i:=4) rfl r125 rfl ?_)
 exact⟨(⟨5,(nm 102 k_2),0,none,0,[]⟩:Ex),_,_,_,rfl,rfl, .flag _ _ hk_2,hbn_2⟩
 simp only[Bool.or_eq_false_iff,Bool.and_eq_false_iff,Bool.or_eq_true,Bool.and_eq_true,decide_eq_true_eq,decide_eq_false_iff_not]at c30
 refine To.s (To.g (To.meet (T:=Bool) (fun t=>([(0,pv b),(1,nv d),(4,pv b4),(5,nv k),(50, .bool t)],[box b [nv m.ints,nv m.tables,nv m.flags,nv m.own,vs m.Aa m.ars m.qa,nv m.np,vs Bn bln qn,nv left] 206,ros encY Bn bln,box b4 [.int .i64 0, .string bE, .int .i64 0, .slice none 0 0] 125])) (fun t=>t=((decide (((k:Nat):Int)=3))&&decide (0<((m.tables:Nat):Int)))) ?_ (fun t ht=>?_)))
 refine To.z 2 ?_
 refine To.rdP rfl rfl rfl (Rd.move rfl rfl) (fun g53=>?_) (fun g53=>?_)
 refine To.z 9 ?_
 refine To.he (decide (0<((m.tables:Nat):Int))) (by first|(simp[g53];done)|(simp[g53];omega)) sb rfl
 refine To.z 9 ?_
 refine To.he false (by first|(simp[g53];done)|(simp[g53];omega)) sb rfl
 subst ht
 dsimp only
 refine To.cond rfl (fun c50=>?_) (fun c50=>?_)
 simp only[Bool.or_eq_false_iff,Bool.and_eq_false_iff,Bool.or_eq_true,Bool.and_eq_true,decide_eq_true_eq,decide_eq_false_iff_not]at c50
 refine To.z 3 ?_
 refine To.cl [0,0] rfl rfl rfl (Ent.fn rfl rfl ca211) rfl (number_fn b m hm hnp 2 1 rfl Bn qn bln left hbn) ?_
 rintro _ _ ⟨e,Bn_2,qn_2,bln_2,rfl,rfl,he,hbn_2⟩
 refine To.mk rfl rfl rfl (Mk.sN (us:=(encE e)) rfl s123 rfl rfl rfl rfl rfl rfl) ?_
 rintro _ _ ⟨b62,rfl,rfl⟩
 refine To.r (Rd.build (vs:=[(0, .int .i64 7),(1, .string nT0),(3, .slice (some ⟨b62,0,none⟩) 1 1)]) (cells:=[.int .i64 7, .string nT0, .int .i64 0, .slice (some ⟨b62,0,none⟩) 1 1]) rfl rfl rfl (by kernel_rfl)) ?_
 refine To.z 6 ?_
 refine To.up3 (To.exprs1 (A:=(some ⟨b62,0,none⟩)) e (To.endC [1,1,0] rfl (.inl rfl) results210 rfl (i:=3) rfl r125 rfl ?_))
 exact⟨(⟨7,nT0,0,(some ⟨b62,0,none⟩),1,[e]⟩:Ex),_,_,_,rfl,rfl, .has _ _ (show 0<m.tables by omega) he,hbn_2⟩
 simp only[Bool.or_eq_false_iff,Bool.and_eq_false_iff,Bool.or_eq_true,Bool.and_eq_true,decide_eq_true_eq,decide_eq_false_iff_not]at c50
 refine To.z 7 ?_
 refine To.cp rfl (fun c64=>?_) (fun c64=>?_)
 refine To.z 5 ?_
 refine To.cl [0,0] rfl rfl rfl (Ent.fn rfl rfl ca210) rfl (ih om Bn qn bln left hbn) ?_
 rintro _ _ ⟨e,Bn_2,qn_2,bln_2,rfl,rfl,he,hbn_2⟩
 refine To.mk rfl rfl rfl (Mk.sN (us:=(encE e)) rfl s123 rfl rfl rfl rfl rfl rfl) ?_
 rintro _ _ ⟨b71,rfl,rfl⟩
 refine To.r (Rd.build (vs:=[(0, .int .i64 10),(3, .slice (some ⟨b71,0,none⟩) 1 1)]) (cells:=[.int .i64 10, .string bE, .int .i64 0, .slice (some ⟨b71,0,none⟩) 1 1]) rfl rfl rfl (by kernel_rfl)) ?_
 refine To.z 6 ?_
 refine To.up3 (To.exprs1 (A:=(some ⟨b71,0,none⟩)) e (To.endC [1,1,0] rfl (.inl rfl) results210 rfl (i:=3) rfl r125 rfl ?_))
 exact⟨(⟨10,bE,0,(some ⟨b71,0,none⟩),1,[e]⟩:Ex),_,_,_,rfl,rfl,(by rw[show 2-d=(2-(d+1))+1 from by omega];exact .not _ _ he),hbn_2⟩
 refine To.s (To.g (To.meet (T:=Bool) (fun t=>([(0,pv b),(1,nv d),(4,pv b4),(5,nv k),(73, .bool t)],[box b [nv m.ints,nv m.tables,nv m.flags,nv m.own,vs m.Aa m.ars m.qa,nv m.np,vs Bn bln qn,nv left] 206,ros encY Bn bln,box b4 [.int .i64 0, .string bE, .int .i64 0, .slice none 0 0] 125])) (fun t=>t=((decide (((k:Nat):Int)=6))||decide (((k:Nat):Int)=7))) ?_ (fun t ht=>?_)))
 refine To.z 2 ?_
 refine To.rdP rfl rfl rfl (Rd.move rfl rfl) (fun g76=>?_) (fun g76=>?_)
 refine To.z 6 ?_
 refine To.he true (by first|(simp[g76];done)|(simp[g76];omega)) sb rfl
 refine To.z 6 ?_
 refine To.he (decide (((k:Nat):Int)=7)) (by first|(simp[g76];done)|(simp[g76];omega)) sb rfl
 subst ht
 dsimp only
 refine To.cond rfl (fun c73=>?_) (fun c73=>?_)
 simp only[Bool.or_eq_false_iff,Bool.and_eq_false_iff,Bool.or_eq_true,Bool.and_eq_true,decide_eq_true_eq,decide_eq_false_iff_not]at c73
 refine To.z 5 ?_
 refine To.cl [0,0] rfl rfl rfl (Ent.fn rfl rfl ca210) rfl (ih om Bn qn bln left hbn) ?_
 rintro _ _ ⟨e,Bn_2,qn_2,bln_2,rfl,rfl,he,hbn_2⟩
 refine To.al fun b6=>?_
 refine To.z 4 ?_
 refine To.flow [box b6 (encE e) 125] [⟨0,[],0⟩,⟨1,[],0⟩,⟨2,[],0⟩,⟨3,[],0⟩,⟨4,[],0⟩,⟨5,[],0⟩,⟨6,[],5⟩,⟨7,[],2⟩,⟨8,[7],0⟩,⟨9,[7],5⟩] mixed (by kernel_rfl) (ocs (oca 0 rfl) (ocn _)) (Fw.mo ?_)
 refine Fw.f rfl (Rd.addN (a:=16) (b:=k) rfl rfl rfl om) ?_
 refine To.z 4 ?_
 refine Fw.call [1,1] rfl rfl rfl rfl (Ent.fn rfl rfl ca210) rfl (ih om Bn_2 qn_2 bln_2 left hbn_2) ?_
 rintro _ _ ⟨e_2,Bn_3,qn_3,bln_3,rfl,rfl,he_2,hbn_3⟩
 refine⟨ocs (oca 3 rfl) (ocn _),?_⟩
 refine Fw.mk rfl rfl rfl rfl rfl (Mk.sN (us:=[nv e.op, .string e.name, .int .i64 e.n,vs e.A e.args e.q,nv e_2.op, .string e_2.name, .int .i64 e_2.n,vs e_2.A e_2.args e_2.q]) rfl s123 rfl rfl rfl rfl rfl rfl) ?_
 rintro _ _ ⟨b91,rfl,rfl⟩
 refine Fw.f rfl (Rd.build (vs:=[(0,nv (16+k)),(3, .slice (some ⟨b91,0,none⟩) 2 2)]) (cells:=[nv (16+k), .string bE, .int .i64 0, .slice (some ⟨b91,0,none⟩) 2 2]) rfl rfl rfl (by kernel_rfl)) ?_
 refine Fw.up rfl rfl rfl (Up.storeS (i:=6) rfl rfl rfl r125 rfl rfl rfl (bta rfl)) (ocs (oca 4 rfl) (ocn _)) ?_
 refine To.z 5 ?_
 refine To.up3 (To.up5 (To.exprs2 (A:=(some ⟨b91,0,none⟩)) e e_2 (To.endC [1,1,0] rfl (.inl rfl) results210 rfl (i:=4) rfl r125 rfl ?_)))
 exact⟨(⟨16+k,bE,0,(some ⟨b91,0,none⟩),2,[e,e_2]⟩:Ex),_,_,_,rfl,rfl,(by rw[show 2-d=(2-(d+1))+1 from by omega];exact .two _ _ _ _ om he he_2),hbn_3⟩
 simp only[Bool.or_eq_false_iff,Bool.and_eq_false_iff,Bool.or_eq_true,Bool.and_eq_true,decide_eq_true_eq,decide_eq_false_iff_not]at c73
 refine To.z 6 ?_
 refine To.cl [0,0] rfl rfl rfl (Ent.fn rfl rfl ca176) rfl (next_fn b m Bn qn bln left 6 hbn om) ?_
 rintro _ _ ⟨k_2,Bn_2,qn_2,bln_2,rfl,rfl,hk_2,hbn_2⟩
 refine To.r (Rd.addN (a:=16) (b:=k_2) rfl rfl rfl om) ?_
 refine To.z 6 ?_
 refine To.cl [0,0] rfl rfl rfl (Ent.fn rfl rfl ca211) rfl (number_fn b m hm hnp 2 1 rfl Bn_2 qn_2 bln_2 left hbn_2) ?_
 rintro _ _ ⟨e,Bn_3,qn_3,bln_3,rfl,rfl,he,hbn_3⟩
 refine To.al fun b8=>?_
 refine To.z 4 ?_
 refine To.flow [box b8 (encE e) 125] [⟨0,[],0⟩,⟨1,[],0⟩,⟨2,[],0⟩,⟨3,[],5⟩,⟨4,[],2⟩,⟨5,[4],0⟩,⟨6,[4],5⟩] mixed (by kernel_rfl) (ocs (oca 0 rfl) (ocn _)) (To.z 3 ?_)
 refine Fw.call [1,1] rfl rfl rfl rfl (Ent.fn rfl rfl ca211) rfl (number_fn b m hm hnp 2 1 rfl Bn_3 qn_3 bln_3 left hbn_3) ?_
 rintro _ _ ⟨e_2,Bn_4,qn_4,bln_4,rfl,rfl,he_2,hbn_4⟩
 refine⟨ocs (oca 3 rfl) (ocn _),?_⟩
 refine Fw.mk rfl rfl rfl rfl rfl (Mk.sN (us:=[nv e.op, .string e.name, .int .i64 e.n,vs e.A e.args e.q,nv e_2.op, .string e_2.name, .int .i64 e_2.n,vs e_2.A e_2.args e_2.q]) rfl s123 rfl rfl rfl rfl rfl rfl) ?_
 rintro _ _ ⟨b102,rfl,rfl⟩
 refine Fw.f rfl (Rd.build (vs:=[(0,nv (16+k_2)),(3, .slice (some ⟨b102,0,none⟩) 2 2)]) (cells:=[nv (16+k_2), .string bE, .int .i64 0, .slice (some ⟨b102,0,none⟩) 2 2]) rfl rfl rfl (by kernel_rfl)) ?_
 refine Fw.up rfl rfl rfl (Up.storeS (i:=6) rfl rfl rfl r125 rfl rfl rfl (bta rfl)) (ocs (oca 4 rfl) (ocn _)) ?_
 refine To.z 3 ?_
 refine To.up3 (To.up5 (To.exprs2 (A:=(some ⟨b102,0,none⟩)) e e_2 (To.endC [1,1,0] rfl (.inl rfl) results210 rfl (i:=4) rfl r125 rfl ?_)))
 exact⟨(⟨16+k_2,bE,0,(some ⟨b102,0,none⟩),2,[e,e_2]⟩:Ex),_,_,_,rfl,rfl, .cmp _ _ _ _ om he he_2,hbn_4⟩
theorem truth_fn(b:Nat)(m:Mr)(hm:m.ct.Ok)(hnp:m.np≤2):∀(k d:Nat),d+k=2→∀(B:OA) (q:Nat) (bl:List Nat) (left:Nat),okB bl q→Dz 210 [pv b,nv d] [box b [nv m.ints,nv m.tables,nv m.flags,nv m.own,vs m.Aa m.ars m.qa,nv m.np,vs B bl q,nv left] 206,ros encY B bl] (fun v Γ'=>∃(e:Ex) (B':OA) (q':Nat) (bl':List Nat),v= .agg (encE e).toArray∧Γ'=[box b [nv m.ints,nv m.tables,nv m.flags,nv m.own,vs m.Aa m.ars m.qa,nv m.np,vs B' bl' q',nv left] 206,ros encY B' bl',all (lsE e.A e.args)]∧TruE m.ct m.np (2-d) e.pure∧okB bl' q')
 |0,d,h,B,q,bl,left,hb=>truth_step b m hm hnp d om (fun h=>by omega) B q bl left hb
 |k+1,d,h,B,q,bl,left,hb=>truth_step b m hm hnp d om (fun _=>truth_fn b m hm hnp k (d+1) om) B q bl left hb
end Go.Proofs.YtllalpnmagpkfaaGreatDoor

/- Own text. -/
import Derived.Test.YtlihklladkagpaaGreatDoorGb
set_option linter.unusedVariables false
set_option linter.unusedSimpArgs false
set_option maxHeartbeats 2000000
set_option maxRecDepth 100000
namespace Go.Proofs.YtlihklladkagpaaGreatDoor
open Go.Proofs.Tryz
open Go.RowKit Go.Flow Go.Mem Go.Sep Go.In
theorem KZ(l:List Nat):∀s:ByteArray,(l.map fun n:Nat=>(n:Int)).foldl (fun r n=>r.push (UInt8.ofNat n.toNat)) s=s++aLy l:=by
 induction l with
 |nil=>intro s;exact(ByteArray.append_empty).symm
 | cons a r ih=>
   intro s
   rw[aFn,aGe,ih]
   show s.push (UInt8.ofNat ((a:Int).toNat))++aLy r=s++aLy (a::r)
   have hp:s.push (UInt8.ofNat a)=s++aLy [a]:=by
    cases s with
    |mk d=>exact(show(⟨d.push (UInt8.ofNat a)⟩:ByteArray)=⟨d⟩++⟨#[UInt8.ofNat a]⟩ by rw[ByteArray.mk_append_mk];exact congrArg ByteArray.mk (Array.ext' (by simp)))
   rw[Int.toNat_natCast,show aLy (a::r)=aLy [a]++aLy r from(ET [a] r).symm,←ByteArray.append_assoc,hp]
theorem tX(l:List Nat):strOf l=aLy l:=by
 unfold strOf;rw[KZ];exact ByteArray.empty_append
structure Mr where
 ints:Nat
 tables:Nat
 flags:Nat
 own:Nat
 Aa:OA
 qa:Nat
 ars:List Ar
 np:Nat
abbrev cM(m:Mr)(r:List Value):List Value:=nv m.ints::nv m.tables::nv m.flags::nv m.own::vs m.Aa m.ars m.qa::nv m.np::r
def Mr.ct(m:Mr):Ct:=⟨m.ints,m.tables,m.flags,m.own,m.ars.map Ar.l⟩
theorem jJ(x y:Nat):
    Dz 48 [nv x,nv y] [] (fun v _=>v=nv (min x y)):=by
 refine Am func48 ntmps48 fun w0=>?_
 refine Jz 13 ?_
 refine Jcp rfl ?_ ?_<;>intro c7
 refine Jz 8 ?_
 refine Je1 results48 ?_
 exact congrArg iv om
 refine Jz 9 ?_
 refine Je1 results48 ?_
 exact congrArg iv om
theorem Gq(c n:Nat)(hc:c<256)(hn:n≤10):
    Dz 49 [.int .u8 ((c:Nat):Int),nv n] [] (fun v Γ'=>∃(A:OA) (q:Nat),v= .slice A (nms c n).length q∧Γ'=[rows aMb 9 1 A q (nms c n)]∧(0<n→A=some ⟨blk A,ofs A,none⟩)):=by
 refine Am func49 ntmps49 fun w0=>?_
 refine Jz 17 ?_
 refine Cz (aMb) 9 1 (Ce [0] rfl (Lf (fun s g mz ρ Γ=>∃(Ao:OA) (qo:Nat) (O:List ByteArray) (k:Nat),ρ=[s 0,s 1,(5,vs Ao O qo),(6,nv k)]∧Γ=[rows aMb 9 1 Ao qo O]∧mz=n-k∧(k≤n)∧(O=nms c k)) ⟨⟨none,0,([]:List ByteArray),0,rfl,rfl,rfl,om,rfl⟩,sb⟩ ?_))
 rintro mz _ _ ⟨Ao,qo,O,k,rfl,rfl,rfl,hk,hO⟩
 have hOl:O.length=k:=by rw[hO,Dq]
 refine Jz 8 ?_
 refine Jcp rfl ?_ ?_<;>intro c9
 refine Jz 8 ?_
 refine Jr (Ns (a:=48) (b:=k) rfl rfl rfl om) ?_
 refine Jr (Fv rfl rfl underlying3 underlying5 (IntWalk.u8_in _ om)) ?_
 refine Eg [.int .u8 ((c:Nat):Int), .int .u8 ((48+k:Nat):Int)] fun b17=>?_
 refine Jr (Cr (v':= .string (nm c k)) (congrArg Value.string (tX _)) (tV (l:=[c,48+k]) rfl underlying22 underlying5 underlying9 rfl (Ht 0 rfl))) ?_
 refine Eg [.string (nm c k)] fun b19=>?_
 refine Jge rfl rfl rfl (Bg Ec (i:=2) (j:=0) (el:=(nm c k)) rfl s37 rfl rfl rfl rfl rfl om om) ?_
 rintro _ _ ⟨A20,q20,rfl,rfl⟩
 refine Jz 10 ?_
 refine Ce [2] rfl (Hu ⟨⟨A20,q20,(O++[(nm c k)]),k+1,rfl,rfl,rfl,om,(by rw[jG,hO])⟩,sb⟩)
 refine Jz 12 ?_
 refine Lt (p:=0<O.length→Ao=some ⟨blk Ao,ofs Ao,none⟩) (fun w hw h0=>Oe Ec (by decide) h0 0 rfl hw) (fun hA=>?_)
 refine Ce [0] rfl (Je1 results49 ?_)
 have e:k=n:=om
 subst e
 subst hO
 exact⟨_,_,rfl,rfl,fun h0=>hA (by rw[Dq];exact h0)⟩
theorem Lh(b:Nat)(m:Mr)(B:OA)(q:Nat)(bl:List Nat)(left:Nat)(n:Nat)(hb:okB bl q)(hn:0<n):
    Dz 129 [pv b,nv n] [box b [nv m.ints,nv m.tables,nv m.flags,nv m.own,vs m.Aa m.ars m.qa,nv m.np,vs B bl q,nv left] 158,ros Gw B bl] (fun v Γ'=>∃(k:Nat) (B':OA) (q':Nat) (bl':List Nat),v=nv k∧Γ'=[box b [nv m.ints,nv m.tables,nv m.flags,nv m.own,vs m.Aa m.ars m.qa,nv m.np,vs B' bl' q',nv left] 158,ros Gw B' bl']∧k<n∧okB bl' q'):=by
 refine Am func129 ntmps129 fun w0=>?_
 refine Jz 16 ?_
 refine Jcp rfl ?_ ?_<;>intro c11
 refine Jz 7 ?_
 refine Ce [0,0] rfl (Je1 results129 ?_)
 exact⟨0,_,_,_,rfl,rfl,hn,hb⟩
 refine Jz 3 ?_
 have hpos:0<bl.length:=om
 obtain⟨x,hx⟩:=exg bl 0 om
 have hx2:=hb.1 x (mog hx)
 have hq2:=hb.2
 refine Jz 7 ?_
 refine Jr (Fv rfl rfl underlying5 underlying3 (IntWalk.i64_in _ om)) ?_
 refine Jz 10 ?_
 refine Jr (Cr (v':= .slice (Hr B q 1 1) (bl.drop 1).length (q-1)) (congrArg (fun z=>Value.slice (Hr B q 1 1) z (q-1)) (aFk).symm) (Mh (lo:=1) rfl s22 rfl rfl om)) ?_
 refine Jz 6 ?_
 refine bJ QW q 1 1 rfl hb.2 om (Jz 3 ?_)
 refine Jr (Ke (a:=x) (b:=n) rfl rfl rfl om) ?_
 refine Jz 4 ?_
 refine Ce [1,0] rfl (Je1 results129 ?_)
 exact⟨x%n,_,_,_,rfl,rfl,Nat.mod_lt _ hn,hb.drop 1⟩
theorem Ul(b:Nat)(m:Mr)(B:OA)(q:Nat)(bl:List Nat)(left:Nat)(hb:okB bl q)(hmi:1≤m.ints∧m.ints≤3):
    Dz 168 [pv b] [box b [nv m.ints,nv m.tables,nv m.flags,nv m.own,vs m.Aa m.ars m.qa,nv m.np,vs B bl q,nv left] 158,ros Gw B bl] (fun v Γ'=>∃(k:Nat) (B':OA) (q':Nat) (bl':List Nat),v= .string (nm 120 k)∧Γ'=[box b [nv m.ints,nv m.tables,nv m.flags,nv m.own,vs m.Aa m.ars m.qa,nv m.np,vs B' bl' q',nv left] 158,ros Gw B' bl']∧k<m.ints∧okB bl' q'):=by
 refine Am func168 ntmps168 fun w0=>?_
 refine Jz 6 ?_
 refine Jfw [] [1,2,3,4,400,105,1506,107,108,9] (ocn _) ?_
 refine Jz 4 ?_
 refine Gj rfl rfl rfl rfl rfl .fc (Gq 120 3 om om) rfl (ocn _) ?_
 rintro _ _ ⟨An,qn,rfl,rfl,hAn⟩
 refine⟨rfl,?_⟩
 refine Jz 1 ?_
 refine Da [1,1] (Lh b m B q bl left m.ints hb om) ?_
 rintro _ _ ⟨k,Bn,qn_2,bln,rfl,rfl,hk,hbn⟩
 refine⟨ocn _,?_⟩
 refine Fw.r rfl (Ga (i:=2) (j:=k) rfl rfl rfl s37 rfl (Ea om)) ?_
 refine Fw.r rfl (Ck (i:=2) rfl rfl c9 rfl (Dc (rwg Ec (Ea om)) rfl)) ?_
 refine Jz 4 ?_
 refine Ce [0,0] rfl (Je1 results168 ?_)
 exact⟨_,_,_,_,rfl,rfl,hk,hbn⟩
def lsE(A:OA)(l:List Ex):List Ai:=ros Dk A l::El Dk l
def lsS(A:OA)(l:List St):List Ai:=ros aMc A l::Ez Dk aMc l
theorem RO(A:OA)(a:Ex):lsE A [a]=ros Dk A [a]::lsE a.A a.args:=by
 show ros Dk A [a]::(a.kids Dk++[])=_;rw[aEz,Lg];rfl
theorem RP(A:OA)(a b:Ex):lsE A [a,b]=ros Dk A [a,b]::(lsE a.A a.args++lsE b.A b.args):=by
 show ros Dk A [a,b]::(a.kids Dk++(b.kids Dk++[]))=_;rw[aEz,Lg,Lg];rfl
theorem xG(O:List Ex)(e:Ex):El Dk (O++[e])=El Dk O++lsE e.A e.args:=by
 rw[Nc,Nc,aFe]
 show _++(e.kids Dk++[])=_
 rw[aEz,Lg];rfl
theorem xH(O:List St)(e:St):Ez Dk aMc (O++[e])=Ez Dk aMc O++e.kids Dk aMc:=by
 rw[Pi,Pi,aFe]
 show _++(e.kids Dk aMc++[])=_
 rw[aEz]
section
variable{C:Cx}{ρ:Cb}{Γ:List Ai}{K:Act→World→Prop}{A:OA}{ty:TypeId}{q:Nat}
theorem Vz{α:Type}(f:α→List Value)(w:World):(ros f none []).holds w:= .inl rfl
theorem Um(k:To C ρ (all (lsE none [])::Γ) K):To C ρ Γ K:=Mg (c:=all (lsE none [])) rfl rfl (fun w=>Ig rfl fun c hc=>by rw[aEr.1 hc];exact Vz _ w) k
theorem Fb(k:To C ρ (all (lsS none [])::Γ) K):To C ρ Γ K:=Mg (c:=all (lsS none [])) rfl rfl (fun w=>Ig rfl fun c hc=>by rw[aEr.1 hc];exact Vz _ w) k
theorem Lx(a:Ex)(k:To C ρ (all (lsE A [a])::Γ) K):To C ρ (all (lsE a.A a.args)::rows Dk ty 4 A q [a]::Γ) K:=
 To.perm (aFc _ _ _) (Cq (Dn (by rw[←RO];exact k)))
theorem fF(a b:Ex)(k:To C ρ (all (lsE A [a,b])::Γ) K):To C ρ (all (lsE a.A a.args)::all (lsE b.A b.args)::rows Dk ty 4 A q [a,b]::Γ) K:=
 Kq (To.perm (aFc _ _ _) (Cq (Dn (by rw[←RP];exact k))))
theorem LA(O:List Ex)(e:Ex)(k:To C ρ (all (El Dk (O++[e]))::Γ) K):To C ρ (all (lsE e.A e.args)::all (El Dk O)::Γ) K:=
 To.perm (aFc _ _ _) (Kq (by rw[←xG];exact k))
theorem LB(O:List St)(e:St)(k:To C ρ (all (Ez Dk aMc (O++[e]))::Γ) K):To C ρ (all (e.kids Dk aMc)::all (Ez Dk aMc O)::Γ) K:=
 To.perm (aFc _ _ _) (Kq (by rw[←xH];exact k))
theorem Tt(l:List Ex)(k:To C ρ (all (lsE A l)::Γ) K):To C ρ (rows Dk ty 4 A q l::all (El Dk l)::Γ) K:=Cq (Dn k)
theorem LC(l:List St)(k:To C ρ (all (lsS A l)::Γ) K):To C ρ (rows aMc ty 6 A q l::all (Ez Dk aMc l)::Γ) K:=Cq (Dn k)
theorem RQ(k:To C ρ (all (El Dk [])::Γ) K):To C ρ Γ K:=Ko k
theorem LD(k:To C ρ (all (Ez Dk aMc [])::Γ) K):To C ρ Γ K:=Ko k
end
theorem dL(b:Nat)(m:Mr)(hm:m.ct.Ok)(hnp:m.np≤2)(d:Nat)(hd:d≤3)(ih:d<3→∀(B:OA) (q:Nat) (bl:List Nat) (left:Nat),okB bl q→Dz 166 [pv b,nv (d+1)] [box b [nv m.ints,nv m.tables,nv m.flags,nv m.own,vs m.Aa m.ars m.qa,nv m.np,vs B bl q,nv left] 158,ros Gw B bl] (fun v Γ'=>∃(e:Ex) (B':OA) (q':Nat) (bl':List Nat),v= .agg (Dk e).toArray∧Γ'=[box b [nv m.ints,nv m.tables,nv m.flags,nv m.own,vs m.Aa m.ars m.qa,nv m.np,vs B' bl' q',nv left] 158,ros Gw B' bl',all (lsE e.A e.args)]∧Kh m.ct m.np (3-(d+1)) e.pure∧okB bl' q'))(B:OA)(q:Nat)(bl:List Nat)(left:Nat)(hb:okB bl q):
    Dz 166 [pv b,nv d] [box b [nv m.ints,nv m.tables,nv m.flags,nv m.own,vs m.Aa m.ars m.qa,nv m.np,vs B bl q,nv left] 158,ros Gw B bl] (fun v Γ'=>∃(e:Ex) (B':OA) (q':Nat) (bl':List Nat),v= .agg (Dk e).toArray∧Γ'=[box b [nv m.ints,nv m.tables,nv m.flags,nv m.own,vs m.Aa m.ars m.qa,nv m.np,vs B' bl' q',nv left] 158,ros Gw B' bl',all (lsE e.A e.args)]∧Kh m.ct m.np (3-d) e.pure∧okB bl' q'):=by
 have hmi:1≤m.ints∧m.ints≤3:=hm.ints
 have hmt:m.tables≤1:=hm.tables
 refine Am func166 ntmps166 fun w0=>?_
 refine Js (To.g (Jal fun b4=>?_))
 refine Jz 5 ?_
 refine Jcf [1,1] (Lh b m B q bl left 12 hb om) ?_
 rintro _ _ ⟨k,Bn,qn,bln,rfl,rfl,hk,hbn⟩
 refine Jz 7 ?_
 refine Nk [0,1,4,5] 10 ((decide (((k:Nat):Int)<2))||((decide (2<((d:Nat):Int)))&&decide (5<((k:Nat):Int)))) ?_ ?_
 refine Jz 2 ?_
 refine JgP ?_ ?_<;>intro g13
 refine Jz 10 ?_
 refine Gg rfl (gg g13)
 refine Jz 2 ?_
 refine JgP ?_ ?_<;>intro g16
 refine Jz 7 ?_
 refine Gg rfl (gg2 g13 g16)
 refine Jz 7 ?_
 refine Gg rfl (gg2 g13 g16)
 refine Ed rfl ?_ ?_<;>intro c10
 have c10:=bA c10
 refine Jz 3 ?_
 refine Jcf [0,0] (Lh b m Bn qn bln left 9 hbn om) ?_
 rintro _ _ ⟨k_2,Bn_2,qn_2,bln_2,rfl,rfl,hk_2,hbn_2⟩
 refine Jr (.bd [iv 1, .string bE,nv k_2,nz]) ?_
 refine Jz 6 ?_
 refine Um (Gf [1,1,0] results166 ?_)
 exact⟨(⟨1,bE,((k_2:Nat):Int),none,0,[]⟩:Ex),_,_,_,rfl,rfl, .num _ _ hk_2,hbn_2⟩
 have c10:=bA c10
 refine Js (To.g (Nk [0,1,4,5] 24 ((decide (((k:Nat):Int)<4))||((decide (((k:Nat):Int)=4))&&decide (((m.np:Nat):Int)=0))) ?_ ?_))
 refine Jz 2 ?_
 refine JgP ?_ ?_<;>intro g27
 refine Jz 13 ?_
 refine Gg rfl (gg g27)
 refine Jz 2 ?_
 refine JgP ?_ ?_<;>intro g30
 refine Jz 10 ?_
 refine Gg rfl (gg2 g27 g30)
 refine Jz 10 ?_
 refine Gg rfl (gg2 g27 g30)
 refine Ed rfl ?_ ?_<;>intro c24
 have c24:=bA c24
 refine Jz 3 ?_
 refine Jcf [0,0] (Ul b m Bn qn bln left hbn hmi) ?_
 rintro _ _ ⟨k_2,Bn_2,qn_2,bln_2,rfl,rfl,hk_2,hbn_2⟩
 refine Jr (.bd [iv 5, .string (nm 120 k_2),iv 0,nz]) ?_
 refine Jz 6 ?_
 refine Um (Gf [1,1,0] results166 ?_)
 exact⟨(⟨5,(nm 120 k_2),0,none,0,[]⟩:Ex),_,_,_,rfl,rfl, .var _ _ hk_2,hbn_2⟩
 have c24:=bA c24
 refine Jz 7 ?_
 refine Jcp rfl ?_ ?_<;>intro c41
 refine Js (Jfw [] [1,2,3,4,400,105,1506,107,108,9,510] (ocn _) ?_)
 refine Jz 4 ?_
 refine Gj rfl rfl rfl rfl rfl .fc (Gq 112 2 om om) rfl (ocn _) ?_
 rintro _ _ ⟨An,qn_2,rfl,rfl,hAn⟩
 refine⟨rfl,?_⟩
 refine Jz 1 ?_
 refine Da [1,1] (Lh b m Bn qn bln left m.np hbn om) ?_
 rintro _ _ ⟨k_2,Bn_2,qn_3,bln_2,rfl,rfl,hk_2,hbn_2⟩
 refine⟨ocn _,?_⟩
 refine Fw.r rfl (Ga (i:=2) (j:=k_2) rfl rfl rfl s37 rfl (Ea om)) ?_
 refine Fw.r rfl (Ck (i:=2) rfl rfl c9 rfl (Dc (rwg Ec (Ea om)) rfl)) ?_
 refine Fw.f rfl (.bd [iv 5, .string (nm 112 k_2),iv 0,nz]) ?_
 refine Fw.up rfl rfl rfl (Bl (i:=3) rfl rfl rfl JS rfl rfl rfl (bta rfl)) (ocn _) ?_
 refine Jz 5 ?_
 refine Um (Gf [1,1,0] results166 ?_)
 exact⟨(⟨5,(nm 112 k_2),0,none,0,[]⟩:Ex),_,_,_,rfl,rfl, .par _ _ hk_2,hbn_2⟩
 refine Jz 7 ?_
 refine Jcp rfl ?_ ?_<;>intro c54
 refine Js (To.g (Jr (.bd [iv 4, .string bE,iv 0,nz]) ?_))
 refine Jz 6 ?_
 refine Um (Gf [1,1,0] results166 ?_)
 exact⟨(⟨4,bE,0,none,0,[]⟩:Ex),_,_,_,rfl,rfl, .now _,hbn⟩
 refine Js (To.g (Nk [0,1,4,5] 58 ((decide (((k:Nat):Int)=6))&&decide (0<((m.tables:Nat):Int))) ?_ ?_))
 refine Jz 2 ?_
 refine JgP ?_ ?_<;>intro g61
 refine Jz 9 ?_
 refine Gg rfl (gg g61)
 refine Jz 9 ?_
 refine Gg rfl (gg g61)
 refine Ed rfl ?_ ?_<;>intro c58
 have c58:=bA c58
 refine Jz 5 ?_
 refine Jcf [0,0] (ih om Bn qn bln left hbn) ?_
 rintro _ _ ⟨e,Bn_2,qn_2,bln_2,rfl,rfl,he,hbn_2⟩
 refine Eg (Dk e) fun b72=>?_
 refine Jr (.bd [iv 6, .string nT0,iv 0, .slice (some ⟨b72,0,none⟩) 1 1]) ?_
 refine Jz 6 ?_
 refine Ic (Lx (A:=(some ⟨b72,0,none⟩)) e (Gf [1,1,0] results166 ?_))
 exact⟨(⟨6,nT0,0,(some ⟨b72,0,none⟩),1,[e]⟩:Ex),_,_,_,rfl,rfl,(by rw[show 3-d=(3-(d+1))+1 from by omega];exact .get _ _ (show 0<m.tables by omega) he),hbn_2⟩
 have c58:=bA c58
 refine Js (To.g (Nk [0,1,4,5] 74 ((decide (((k:Nat):Int)=7))&&decide (0<((m.tables:Nat):Int))) ?_ ?_))
 refine Jz 2 ?_
 refine JgP ?_ ?_<;>intro g77
 refine Jz 9 ?_
 refine Gg rfl (gg g77)
 refine Jz 9 ?_
 refine Gg rfl (gg g77)
 refine Ed rfl ?_ ?_<;>intro c74
 have c74:=bA c74
 refine Js (To.g (Jr (.bd [iv 8, .string nT0,iv 0,nz]) ?_))
 refine Jz 6 ?_
 refine Um (Gf [1,1,0] results166 ?_)
 exact⟨(⟨8,nT0,0,none,0,[]⟩:Ex),_,_,_,rfl,rfl, .size _ (show 0<m.tables by omega),hbn⟩
 have c74:=bA c74
 refine Jz 7 ?_
 refine Jcp rfl ?_ ?_<;>intro c85
 refine Jz 5 ?_
 refine Jcf [0,0] (ih om Bn qn bln left hbn) ?_
 rintro _ _ ⟨e,Bn_2,qn_2,bln_2,rfl,rfl,he,hbn_2⟩
 refine Eg (Dk e) fun b92=>?_
 refine Jr (.bd [iv 9, .string bE,iv 0, .slice (some ⟨b92,0,none⟩) 1 1]) ?_
 refine Jz 6 ?_
 refine Ic (Lx (A:=(some ⟨b92,0,none⟩)) e (Gf [1,1,0] results166 ?_))
 exact⟨(⟨9,bE,0,(some ⟨b92,0,none⟩),1,[e]⟩:Ex),_,_,_,rfl,rfl,(by rw[show 3-d=(3-(d+1))+1 from by omega];exact .neg _ _ he),hbn_2⟩
 refine Jz 5 ?_
 refine Eg [iv 14,iv 15,iv 11,iv 12,iv 13,iv 14] fun b94=>?_
 refine Jm ?_
 refine Jcf [1,1] (Lh b m Bn qn bln left 6 hbn om) ?_
 rintro _ _ ⟨k_2,Bn_2,qn_2,bln_2,rfl,rfl,hk_2,hbn_2⟩
 obtain⟨op,ho6⟩:∃z0,([14,15,11,12,13,14]:List Nat)[k_2]?=some z0:=⟨_,gge (show k_2<6 by omega)⟩
 have hop:11≤op∧op≤15:=by have:=mog ho6;simp only[aEi,aEs,or_false]at this;omega
 refine Jr (Ga (enc:=bP) (l:=[14,15,11,12,13,14]) (cap:=6) (i:=2) (j:=k_2) rfl rfl rfl s62 rfl ho6) ?_
 refine Jr (Ck (i:=2) rfl rfl c3 rfl (Dc (rwg fE ho6) rfl)) ?_
 refine Jz 8 ?_
 refine Jcf [0,0] (ih om Bn_2 qn_2 bln_2 left hbn_2) ?_
 rintro _ _ ⟨e,Bn_3,qn_3,bln_3,rfl,rfl,he,hbn_3⟩
 refine Jal fun b7=>?_
 refine Jz 4 ?_
 refine Jfw [box b7 (Dk e) 220] [0,1,2,3,4,505,206,7007,7508] (ocs (oca 0 rfl) (ocn _)) ?_
 refine Jz 5 ?_
 refine Da [1,1] (ih om Bn_3 qn_3 bln_3 left hbn_3) ?_
 rintro _ _ ⟨e_2,Bn_4,qn_4,bln_4,rfl,rfl,he_2,hbn_4⟩
 refine⟨ocs (oca 3 rfl) (ocn _),?_⟩
 refine Es [nv e.op, .string e.name,iv e.n,vs e.A e.args e.q,nv e_2.op, .string e_2.name,iv e_2.n,vs e_2.A e_2.args e_2.q] fun b109=>?_
 refine Fw.f rfl (.bd [nv op, .string bE,iv 0, .slice (some ⟨b109,0,none⟩) 2 2]) ?_
 refine Fw.up rfl rfl rfl (Bl (i:=7) rfl rfl rfl JS rfl rfl rfl (bta rfl)) (ocs (oca 4 rfl) (ocn _)) ?_
 refine Jz 3 ?_
 refine Ic (Nz (fF (A:=(some ⟨b109,0,none⟩)) e e_2 (Gf [1,1,0] results166 ?_)))
 exact⟨(⟨op,bE,0,(some ⟨b109,0,none⟩),2,[e,e_2]⟩:Ex),_,_,_,rfl,rfl,(by rw[show 3-d=(3-(d+1))+1 from by omega];exact .bin _ _ _ _ hop he he_2),hbn_4⟩
theorem Ju(b:Nat)(m:Mr)(hm:m.ct.Ok)(hnp:m.np≤2):∀(k d:Nat),d+k=3→∀(B:OA) (q:Nat) (bl:List Nat) (left:Nat),okB bl q→Dz 166 [pv b,nv d] [box b [nv m.ints,nv m.tables,nv m.flags,nv m.own,vs m.Aa m.ars m.qa,nv m.np,vs B bl q,nv left] 158,ros Gw B bl] (fun v Γ'=>∃(e:Ex) (B':OA) (q':Nat) (bl':List Nat),v= .agg (Dk e).toArray∧Γ'=[box b [nv m.ints,nv m.tables,nv m.flags,nv m.own,vs m.Aa m.ars m.qa,nv m.np,vs B' bl' q',nv left] 158,ros Gw B' bl',all (lsE e.A e.args)]∧Kh m.ct m.np (3-d) e.pure∧okB bl' q')
 |0,d,h,B,q,bl,left,hb=>dL b m hm hnp d om (fun h=>by omega) B q bl left hb
 |k+1,d,h,B,q,bl,left,hb=>dL b m hm hnp d om (fun _=>Ju b m hm hnp k (d+1) om) B q bl left hb
theorem Ii(b:Nat)(m:Mr)(hm:m.ct.Ok)(hnp:m.np≤2)(n:Nat)(hn:n≤4)(B:OA)(q:Nat)(bl:List Nat)(left:Nat)(hb:okB bl q):
    Dz 167 [pv b,nv n] [box b [nv m.ints,nv m.tables,nv m.flags,nv m.own,vs m.Aa m.ars m.qa,nv m.np,vs B bl q,nv left] 158,ros Gw B bl] (fun v Γ'=>∃(l:List Ex) (A:OA) (ql:Nat) (B':OA) (q':Nat) (bl':List Nat),v=vs A l ql∧Γ'=[box b [nv m.ints,nv m.tables,nv m.flags,nv m.own,vs m.Aa m.ars m.qa,nv m.np,vs B' bl' q',nv left] 158,ros Gw B' bl',rows Dk 220 4 A ql l,all (El Dk l)]∧l.length=n∧(∀x∈l,Kh m.ct m.np 2 x.pure)∧okB bl' q'):=by
 refine Am func167 ntmps167 fun w0=>?_
 refine Jz 17 ?_
 refine Cz (Dk) 220 4 (RQ (Cw (fun s g mz ρ Γ=>∃(Bk:OA) (qk:Nat) (blk:List Nat) (Ao:OA) (qo:Nat) (O:List Ex) (k:Nat),ρ=[s 0,s 1,(5,vs Ao O qo),(6,nv k)]∧Γ=[box b [nv m.ints,nv m.tables,nv m.flags,nv m.own,vs m.Aa m.ars m.qa,nv m.np,vs Bk blk qk,nv left] 158,ros Gw Bk blk,rows Dk 220 4 Ao qo O,all (El Dk O)]∧mz=n-k∧(k≤n)∧(O.length=k)∧(∀x∈O,Kh m.ct m.np 2 x.pure)∧(okB blk qk)) ⟨⟨B,q,bl,none,0,([]:List Ex),0,rfl,rfl,rfl,om,rfl,(fun x hx=>by cases hx),hb⟩,sb⟩ ?_))
 rintro mz _ _ ⟨Bk,qk,blk,Ao,qo,O,k,rfl,rfl,rfl,hk,hOl,hO,hbk⟩
 refine Jz 8 ?_
 refine Jcp rfl ?_ ?_<;>intro c9
 refine Jz 7 ?_
 refine Jcf [0,0] (Ju b m hm hnp 2 1 rfl Bk qk blk left hbk) ?_
 rintro _ _ ⟨e,Bn,qn,bln,rfl,rfl,he,hbn⟩
 refine Eg (Dk e) fun b15=>?_
 refine Jge rfl rfl rfl (Bg Uk (i:=4) (j:=0) (el:=e) rfl wT rfl rfl rfl rfl rfl om om) ?_
 rintro _ _ ⟨A16,q16,rfl,rfl⟩
 refine Jz 4 ?_
 refine Nz (Md (LA O e (Jz 6 ?_)))
 refine Ot [(0,pv b),(1,nv n),(5, .slice A16 (O++[e]).length q16),(6,nv ((k+1)))] sb (Df (Ic (Ic (Ic ?_))))
 refine Jag (n-(k+1)) om ⟨Bn,qn,bln,A16,q16,(O++[e]),k+1,rfl,rfl,rfl,om,(by rw[lap,hOl];rfl),(fun x hx=>by
  rcases aFi.1 hx with h0|h0
  ·exact hO x h0
  ·rw[aEr.1 h0];exact he),hbn⟩
 refine Jz 12 ?_
 refine Je1 results167 ?_
 exact⟨O,_,_,_,_,_,rfl,rfl,by omega,hO,hbk⟩
theorem jK(b:Nat)(m:Mr)(hm:m.ct.Ok)(hnp:m.np≤2)(d:Nat)(hd:d≤2)(ih:d<2→∀(B:OA) (q:Nat) (bl:List Nat) (left:Nat),okB bl q→Dz 165 [pv b,nv (d+1)] [box b [nv m.ints,nv m.tables,nv m.flags,nv m.own,vs m.Aa m.ars m.qa,nv m.np,vs B bl q,nv left] 158,ros Gw B bl] (fun v Γ'=>∃(e:Ex) (B':OA) (q':Nat) (bl':List Nat),v= .agg (Dk e).toArray∧Γ'=[box b [nv m.ints,nv m.tables,nv m.flags,nv m.own,vs m.Aa m.ars m.qa,nv m.np,vs B' bl' q',nv left] 158,ros Gw B' bl',all (lsE e.A e.args)]∧Pj m.ct m.np (2-(d+1)) e.pure∧okB bl' q'))(B:OA)(q:Nat)(bl:List Nat)(left:Nat)(hb:okB bl q):
    Dz 165 [pv b,nv d] [box b [nv m.ints,nv m.tables,nv m.flags,nv m.own,vs m.Aa m.ars m.qa,nv m.np,vs B bl q,nv left] 158,ros Gw B bl] (fun v Γ'=>∃(e:Ex) (B':OA) (q':Nat) (bl':List Nat),v= .agg (Dk e).toArray∧Γ'=[box b [nv m.ints,nv m.tables,nv m.flags,nv m.own,vs m.Aa m.ars m.qa,nv m.np,vs B' bl' q',nv left] 158,ros Gw B' bl',all (lsE e.A e.args)]∧Pj m.ct m.np (2-d) e.pure∧okB bl' q'):=by
 have hmi:1≤m.ints∧m.ints≤3:=hm.ints
 have hmt:m.tables≤1:=hm.tables
 have hmf:m.flags≤2:=hm.flags
 refine Am func165 ntmps165 fun w0=>?_
 refine Js (To.g (Jal fun b4=>?_))
 refine Jz 5 ?_
 refine Jcf [1,1] (Lh b m B q bl left 10 hb om) ?_
 rintro _ _ ⟨k,Bn,qn,bln,rfl,rfl,hk,hbn⟩
 refine Jz 12 ?_
 refine Jcp rfl ?_ ?_<;>intro c11
 refine Jz 3 ?_
 refine Jcf [0,0] (Lh b m Bn qn bln left 2 hbn om) ?_
 rintro _ _ ⟨k_2,Bn_2,qn_2,bln_2,rfl,rfl,hk_2,hbn_2⟩
 refine Jr (Ns (a:=2) (b:=k_2) rfl rfl rfl om) ?_
 refine Jr (.bd [nv (2+k_2), .string bE,iv 0,nz]) ?_
 refine Jz 6 ?_
 refine Um (Gf [1,1,0] results165 ?_)
 exact⟨(⟨2+k_2,bE,0,none,0,[]⟩:Ex),_,_,_,rfl,rfl, .tf _ _ om,hbn_2⟩
 refine Js (To.g (Nk [0,1,4,5] 18 ((decide (((k:Nat):Int)=1))||((decide (1<((d:Nat):Int)))&&decide (4<((k:Nat):Int)))) ?_ ?_))
 refine Jz 2 ?_
 refine JgP ?_ ?_<;>intro g21
 refine Jz 10 ?_
 refine Gg rfl (gg g21)
 refine Jz 2 ?_
 refine JgP ?_ ?_<;>intro g24
 refine Jz 7 ?_
 refine Gg rfl (gg2 g21 g24)
 refine Jz 7 ?_
 refine Gg rfl (gg2 g21 g24)
 refine Ed rfl ?_ ?_<;>intro c18
 have c18:=bA c18
 refine Js (To.g (Jr (.bd [iv 5, .string nB0,iv 0,nz]) ?_))
 refine Jz 6 ?_
 refine Um (Gf [1,1,0] results165 ?_)
 exact⟨(⟨5,nB0,0,none,0,[]⟩:Ex),_,_,_,rfl,rfl, .b0 _,hbn⟩
 have c18:=bA c18
 refine Js (To.g (Nk [0,1,4,5] 30 ((decide (((k:Nat):Int)=2))&&decide (0<((m.flags:Nat):Int))) ?_ ?_))
 refine Jz 2 ?_
 refine JgP ?_ ?_<;>intro g33
 refine Jz 9 ?_
 refine Gg rfl (gg g33)
 refine Jz 9 ?_
 refine Gg rfl (gg g33)
 refine Ed rfl ?_ ?_<;>intro c30
 have c30:=bA c30
 refine Js (Jfw [] [1,2,3,4,400,105,1506,107,108,9,510] (ocn _) ?_)
 refine Jz 4 ?_
 refine Gj rfl rfl rfl rfl rfl .fc (Gq 102 2 om om) rfl (ocn _) ?_
 rintro _ _ ⟨An,qn_2,rfl,rfl,hAn⟩
 refine⟨rfl,?_⟩
 refine Jz 1 ?_
 refine Da [1,1] (Lh b m Bn qn bln left m.flags hbn om) ?_
 rintro _ _ ⟨k_2,Bn_2,qn_3,bln_2,rfl,rfl,hk_2,hbn_2⟩
 refine⟨ocn _,?_⟩
 refine Fw.r rfl (Ga (i:=2) (j:=k_2) rfl rfl rfl s37 rfl (Ea om)) ?_
 refine Fw.r rfl (Ck (i:=2) rfl rfl c9 rfl (Dc (rwg Ec (Ea om)) rfl)) ?_
 refine Fw.f rfl (.bd [iv 5, .string (nm 102 k_2),iv 0,nz]) ?_
 refine Fw.up rfl rfl rfl (Bl (i:=3) rfl rfl rfl JS rfl rfl rfl (bta rfl)) (ocn _) ?_
 refine Jz 5 ?_
 refine Um (Gf [1,1,0] results165 ?_)
 exact⟨(⟨5,(nm 102 k_2),0,none,0,[]⟩:Ex),_,_,_,rfl,rfl, .flag _ _ hk_2,hbn_2⟩
 have c30:=bA c30
 refine Js (To.g (Nk [0,1,4,5] 50 ((decide (((k:Nat):Int)=3))&&decide (0<((m.tables:Nat):Int))) ?_ ?_))
 refine Jz 2 ?_
 refine JgP ?_ ?_<;>intro g53
 refine Jz 9 ?_
 refine Gg rfl (gg g53)
 refine Jz 9 ?_
 refine Gg rfl (gg g53)
 refine Ed rfl ?_ ?_<;>intro c50
 have c50:=bA c50
 refine Jz 3 ?_
 refine Jcf [0,0] (Ju b m hm hnp 2 1 rfl Bn qn bln left hbn) ?_
 rintro _ _ ⟨e,Bn_2,qn_2,bln_2,rfl,rfl,he,hbn_2⟩
 refine Eg (Dk e) fun b62=>?_
 refine Jr (.bd [iv 7, .string nT0,iv 0, .slice (some ⟨b62,0,none⟩) 1 1]) ?_
 refine Jz 6 ?_
 refine Ic (Lx (A:=(some ⟨b62,0,none⟩)) e (Gf [1,1,0] results165 ?_))
 exact⟨(⟨7,nT0,0,(some ⟨b62,0,none⟩),1,[e]⟩:Ex),_,_,_,rfl,rfl, .has _ _ (show 0<m.tables by omega) he,hbn_2⟩
 have c50:=bA c50
 refine Jz 7 ?_
 refine Jcp rfl ?_ ?_<;>intro c64
 refine Jz 5 ?_
 refine Jcf [0,0] (ih om Bn qn bln left hbn) ?_
 rintro _ _ ⟨e,Bn_2,qn_2,bln_2,rfl,rfl,he,hbn_2⟩
 refine Eg (Dk e) fun b71=>?_
 refine Jr (.bd [iv 10, .string bE,iv 0, .slice (some ⟨b71,0,none⟩) 1 1]) ?_
 refine Jz 6 ?_
 refine Ic (Lx (A:=(some ⟨b71,0,none⟩)) e (Gf [1,1,0] results165 ?_))
 exact⟨(⟨10,bE,0,(some ⟨b71,0,none⟩),1,[e]⟩:Ex),_,_,_,rfl,rfl,(by rw[show 2-d=(2-(d+1))+1 from by omega];exact .not _ _ he),hbn_2⟩
 refine Js (To.g (Nk [0,1,4,5] 73 ((decide (((k:Nat):Int)=6))||decide (((k:Nat):Int)=7)) ?_ ?_))
 refine Jz 2 ?_
 refine JgP ?_ ?_<;>intro g76
 refine Jz 6 ?_
 refine Gg rfl (gg g76)
 refine Jz 6 ?_
 refine Gg rfl (gg g76)
 refine Ed rfl ?_ ?_<;>intro c73
 have c73:=bA c73
 refine Jz 5 ?_
 refine Jcf [0,0] (ih om Bn qn bln left hbn) ?_
 rintro _ _ ⟨e,Bn_2,qn_2,bln_2,rfl,rfl,he,hbn_2⟩
 refine Jal fun b6=>?_
 refine Jz 4 ?_
 refine Jfw [box b6 (Dk e) 220] [0,1,2,3,4,5,506,207,8008,8509] (ocs (oca 0 rfl) (ocn _)) ?_
 refine Ib ?_
 refine Fw.f rfl (Ns (a:=16) (b:=k) rfl rfl rfl om) ?_
 refine Jz 4 ?_
 refine Da [1,1] (ih om Bn_2 qn_2 bln_2 left hbn_2) ?_
 rintro _ _ ⟨e_2,Bn_3,qn_3,bln_3,rfl,rfl,he_2,hbn_3⟩
 refine⟨ocs (oca 3 rfl) (ocn _),?_⟩
 refine Es [nv e.op, .string e.name,iv e.n,vs e.A e.args e.q,nv e_2.op, .string e_2.name,iv e_2.n,vs e_2.A e_2.args e_2.q] fun b91=>?_
 refine Fw.f rfl (.bd [nv (16+k), .string bE,iv 0, .slice (some ⟨b91,0,none⟩) 2 2]) ?_
 refine Fw.up rfl rfl rfl (Bl (i:=6) rfl rfl rfl JS rfl rfl rfl (bta rfl)) (ocs (oca 4 rfl) (ocn _)) ?_
 refine Jz 5 ?_
 refine Ic (Nz (fF (A:=(some ⟨b91,0,none⟩)) e e_2 (Gf [1,1,0] results165 ?_)))
 exact⟨(⟨16+k,bE,0,(some ⟨b91,0,none⟩),2,[e,e_2]⟩:Ex),_,_,_,rfl,rfl,(by rw[show 2-d=(2-(d+1))+1 from by omega];exact .two _ _ _ _ om he he_2),hbn_3⟩
 have c73:=bA c73
 refine Jz 6 ?_
 refine Jcf [0,0] (Lh b m Bn qn bln left 6 hbn om) ?_
 rintro _ _ ⟨k_2,Bn_2,qn_2,bln_2,rfl,rfl,hk_2,hbn_2⟩
 refine Jr (Ns (a:=16) (b:=k_2) rfl rfl rfl om) ?_
 refine Jz 6 ?_
 refine Jcf [0,0] (Ju b m hm hnp 2 1 rfl Bn_2 qn_2 bln_2 left hbn_2) ?_
 rintro _ _ ⟨e,Bn_3,qn_3,bln_3,rfl,rfl,he,hbn_3⟩
 refine Jal fun b8=>?_
 refine Jz 4 ?_
 refine Jfw [box b8 (Dk e) 220] [0,1,2,503,204,5005,5506] (ocs (oca 0 rfl) (ocn _)) ?_
 refine Jz 3 ?_
 refine Da [1,1] (Ju b m hm hnp 2 1 rfl Bn_3 qn_3 bln_3 left hbn_3) ?_
 rintro _ _ ⟨e_2,Bn_4,qn_4,bln_4,rfl,rfl,he_2,hbn_4⟩
 refine⟨ocs (oca 3 rfl) (ocn _),?_⟩
 refine Es [nv e.op, .string e.name,iv e.n,vs e.A e.args e.q,nv e_2.op, .string e_2.name,iv e_2.n,vs e_2.A e_2.args e_2.q] fun b102=>?_
 refine Fw.f rfl (.bd [nv (16+k_2), .string bE,iv 0, .slice (some ⟨b102,0,none⟩) 2 2]) ?_
 refine Fw.up rfl rfl rfl (Bl (i:=6) rfl rfl rfl JS rfl rfl rfl (bta rfl)) (ocs (oca 4 rfl) (ocn _)) ?_
 refine Jz 3 ?_
 refine Ic (Nz (fF (A:=(some ⟨b102,0,none⟩)) e e_2 (Gf [1,1,0] results165 ?_)))
 exact⟨(⟨16+k_2,bE,0,(some ⟨b102,0,none⟩),2,[e,e_2]⟩:Ex),_,_,_,rfl,rfl, .cmp _ _ _ _ om he he_2,hbn_4⟩
theorem aH(b:Nat)(m:Mr)(hm:m.ct.Ok)(hnp:m.np≤2):∀(k d:Nat),d+k=2→∀(B:OA) (q:Nat) (bl:List Nat) (left:Nat),okB bl q→Dz 165 [pv b,nv d] [box b [nv m.ints,nv m.tables,nv m.flags,nv m.own,vs m.Aa m.ars m.qa,nv m.np,vs B bl q,nv left] 158,ros Gw B bl] (fun v Γ'=>∃(e:Ex) (B':OA) (q':Nat) (bl':List Nat),v= .agg (Dk e).toArray∧Γ'=[box b [nv m.ints,nv m.tables,nv m.flags,nv m.own,vs m.Aa m.ars m.qa,nv m.np,vs B' bl' q',nv left] 158,ros Gw B' bl',all (lsE e.A e.args)]∧Pj m.ct m.np (2-d) e.pure∧okB bl' q')
 |0,d,h,B,q,bl,left,hb=>jK b m hm hnp d om (fun h=>by omega) B q bl left hb
 |k+1,d,h,B,q,bl,left,hb=>jK b m hm hnp d om (fun _=>aH b m hm hnp k (d+1) om) B q bl left hb
end Go.Proofs.YtlihklladkagpaaGreatDoor

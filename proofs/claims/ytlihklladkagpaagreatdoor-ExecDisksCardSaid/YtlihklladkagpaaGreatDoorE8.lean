/- Own text. -/
import Derived.Test.YtlihklladkagpaaGreatDoorEr
set_option maxHeartbeats 12000000
set_option maxRecDepth 100000
set_option linter.unusedVariables false
set_option linter.unusedSimpArgs false
namespace Go.Proofs.YtlihklladkagpaaGreatDoor
open Go.Proofs.Tryz
open Go.RowKit Go.Flow Go.Mem Go.Sep Go.In
theorem memI_succ{F:List Int}{m:Nat}{z n:Int}(hz:F[m]?=some z):(decide (n∈F.take m)||decide (z=n))=decide (n∈F.take (m+1)):=by
 rw[take_of_get hz,Bool.eq_iff_iff]
 simp only[Bool.or_eq_true,decide_eq_true_eq,List.mem_append,List.mem_singleton]
 exact⟨fun h=>h.imp id Eq.symm,fun h=>h.imp id Eq.symm⟩
theorem run_used{c:Cl}{l:List Ins}{W:List Int}{N:Nat}{d:Dv}(h:((N:Nat):Int)=(runV (c.sm l) 1048576 d).disks)(h0:d.disks=0)(hW:∀m:Int,0≤m→m<N→(c.dsk+m∈c.fail↔c.dsk+m∈W))(Af:OA)(qf:Nat):runV (Cl.sm {c with Af:=Af,qf:=qf,fail:=W} l) 1048576 d=runV (c.sm l) 1048576 d:=
 run_sameF (s:=c.sm l) (t:=Cl.sm {c with Af:=Af,qf:=qf,fail:=W} l) ⟨rfl,rfl,rfl,rfl,rfl⟩ 1048576 d fun m h1 h2=>by
  rw[h0]at h1
  rw[←h]at h2
  show c.dsk+m∈isort cmpI c.fail↔c.dsk+m∈isort cmpI W
  rw[isortI_mem,isortI_mem]
  exact hW m h1 h2
theorem exdisks_fn(p:Pl)(hp:p.Ok)(a1 a2 a3:Nat)(h1:a1<256)(h2:a2<256)(h3:a3<256)(w:Wx)(hw:w.ok)(hwf:w.flags<256):
    Dz 7 [.agg (cL p []).toArray, .agg #[.int .u8 ((a1:Nat):Int), .int .u8 ((a2:Nat):Int), .int .u8 ((a3:Nat):Int)], .agg #[vs w.Av w.vars w.qv,vs w.At w.tabs w.qt,vs w.Ad w.disk w.qd,vs w.Aa w.args w.qa, .int .i64 w.now, .int .u8 ((w.flags:Nat):Int), .int .u8 ((w.before:Nat):Int),vs w.Af w.fail w.qf]] [all p.kids,glc,p10c,tabC,ros encI w.Av w.vars,ros encEn w.At w.tabs,ros encEn w.Ad w.disk,ros encI w.Aa w.args,ros encY w.Af w.fail] (fun v _=>v= .bool true):=by
 refine Does.en func7 ntmps7 fun w0=>?_
 refine Js (To.g (Jbo fun b3=>?_))
 refine Jbo fun b4=>?_
 refine Jbo fun b5=>?_
 refine Jz 4 ?_
 refine Jdup 6 rfl rfl (Jz 3 ?_)
 refine Jcf [4,4,4,0] (seek_fn p hp a1 a2 a3 h1 h2 h3) ?_
 rintro _ _ ⟨F,c,oi,vi,s,B,m,rfl,rfl,hG,hc,hvi⟩
 refine Jz 4 ?_
 refine Jal fun b7=>?_
 refine Jz 7 ?_
 refine Jas [box b7 (cF F [nv oi, .string ((hdOr (fndV s none (c.vers.take (vi+1)))).name), .slice ((hdOr (fndV s none (c.vers.take (vi+1)))).Ap) ((hdOr (fndV s none (c.vers.take (vi+1)))).ps.length) ((hdOr (fndV s none (c.vers.take (vi+1)))).qp), .slice ((hdOr (fndV s none (c.vers.take (vi+1)))).Ab) ((hdOr (fndV s none (c.vers.take (vi+1)))).body.length) ((hdOr (fndV s none (c.vers.take (vi+1)))).qb),nv ((pU F c (vi+1) s).np), .int .i64 ((pU F c (vi+1) s).st), .slice B ((pU F c (vi+1) s).l.length) m,nv (nV c.vars),nv (nT c.vars),nv F.flags.length]) 45,all (F.kids eR),rows Ins.cells 116 4 B m ((pU F c (vi+1) s).l),box b5 [vs w.Av w.vars w.qv,vs w.At w.tabs w.qt,vs w.Ad w.disk w.qd,vs w.Aa w.args w.qa, .int .i64 w.now, .int .u8 ((w.flags:Nat):Int), .int .u8 ((w.before:Nat):Int),vs w.Af w.fail w.qf] 31,box b4 [.int .u8 ((a1:Nat):Int), .int .u8 ((a2:Nat):Int), .int .u8 ((a3:Nat):Int)] 27,box b3 (cL p []) 25,tabC,ros encI w.Av w.vars,ros encEn w.At w.tabs,ros encEn w.Ad w.disk,ros encI w.Aa w.args,ros encY w.Af w.fail] rfl ?_
 obtain⟨U,hU⟩:∃z0,z0=(pU F c (vi+1) s):=⟨_,rfl⟩
 rw[←hU]
 refine Jas [box b7 (cF F [nv oi, .string ((hdOr (fndV s none (c.vers.take (vi+1)))).name), .slice ((hdOr (fndV s none (c.vers.take (vi+1)))).Ap) ((hdOr (fndV s none (c.vers.take (vi+1)))).ps.length) ((hdOr (fndV s none (c.vers.take (vi+1)))).qp), .slice ((hdOr (fndV s none (c.vers.take (vi+1)))).Ab) ((hdOr (fndV s none (c.vers.take (vi+1)))).body.length) ((hdOr (fndV s none (c.vers.take (vi+1)))).qb),nv U.np, .int .i64 U.st,vs B U.l m,nv (nV c.vars),nv (nT c.vars),nv F.flags.length]) 45,all (F.kids eR),rows Ins.cells 116 4 B m U.l,box b5 [vs w.Av w.vars w.qv,vs w.At w.tabs w.qt,vs w.Ad w.disk w.qd,vs w.Aa w.args w.qa, .int .i64 w.now, .int .u8 ((w.flags:Nat):Int), .int .u8 ((w.before:Nat):Int),vs w.Af w.fail w.qf] 31,box b4 [.int .u8 ((a1:Nat):Int), .int .u8 ((a2:Nat):Int), .int .u8 ((a3:Nat):Int)] 27,box b3 (cL p []) 25,tabC,ros encI w.Av w.vars,ros encEn w.At w.tabs,ros encEn w.Ad w.disk,ros encI w.Aa w.args,ros encY w.Af w.fail] rfl ?_
 obtain⟨hd,hhd⟩:∃z0,z0=(hdOr (fndV s none (c.vers.take (vi+1)))):=⟨_,rfl⟩
 rw[←hhd]
 obtain⟨is,his⟩:∃z0,z0=(fndV s none (c.vers.take (vi+1))).isSome:=⟨_,rfl⟩
 rw[←his]
 refine To.g (Jvf (awake_fn) rfl (ocs (oca 6 rfl) (ocn _)) ?_)
 refine Jz 11 ?_
 refine Jcond rfl ?_ ?_<;>intro k42
 refine Js (To.g (Jvf (awake_fn) rfl (ocs (oca 6 rfl) (ocn _)) ?_))
 refine Jz 8 ?_
 refine Jdel11 (Jdel10 (Jdel9 (Jdel8 (Jdel7 (Jdel6 (Jdel5 (Jdel4 (Jdel3 (Jdel2 (Jdel1 (Jdel0 (Je1 results7 ?_))))))))))))
 rfl
 refine Jz 3 ?_
 have hsk:SkOk U:=by rw[hU];exact sk_ok hG hc ⟨by omega,by omega⟩ (by rw[←his];simpa using k42)
 have hskf:∀i∈U.l,referB i (nV c.vars) (nT c.vars) F.flags.length=true:=by rw[hU];exact sk_ref hG hc ⟨by omega,by omega⟩ (by rw[←his];simpa using k42)
 obtain⟨hnv,hnt⟩:=nVT hG hc
 have hnf:=(goodX hG).flags
 have hnp:=hsk.np
 refine Jz 11 ?_
 refine Jcf [7,7,7,7,7] (make_fn w hw hwf (nV c.vars) (nT c.vars) U.np F.flags.length om om om om) ?_
 rintro _ _ ⟨a,b,Ff,qf,Fl,Ap,qp,P,Gp,qg,G,rfl,rfl,hva,hvb,hFl,hP,hG2,hcaps,hcapd⟩
 refine Jz 5 ?_
 refine Jal fun b10=>?_
 refine Jal fun b11=>?_
 refine Jal fun b12=>?_
 refine Jal fun b13=>?_
 refine Jz 7 ?_
 refine Jup4 (JlayRow (Jup5 (JlayRow (Jup12 (JlayRow (Jup13 (JlayRow (Jup14 (JlayRow (Jup17 (JlayRow ?_)))))))))))
 have hga:=stV_good hva om
 have hdsk:0≤((w.before:Nat):Int)∧((w.before:Nat):Int)≤1000000000:=by have:=hw.before;omega
 have hul:=hsk.len
 have hv1:=hga.1
 have hv2:=hga.2.1
 have hPl:P.length=U.np:=by rw[hP,pad_len]
 have hGl:G.length=F.flags.length:=by rw[hG2,flags_len]
 have href:∀x∈U.l,referB x a.vars.length a.tabs.length G.length=true:=by rw[hv1,hv2,hGl];exact hskf
 refine Jdup 0 rfl rfl (Jdup 6 rfl rfl (Jdup 6 rfl rfl (Jdup 13 rfl rfl (Jdup 15 rfl rfl (Jdup 8 rfl rfl (Jdup 8 rfl rfl (Jdup 8 rfl rfl (Jdup 29 rfl rfl (Jz 2 ?_)))))))))
 refine Jr (Rd.lS (i:=25) (us:=[nv U.np, .int .i64 U.st,vs B U.l m]) rfl rfl r43 rfl (box_gives (n:=3) rfl) rfl) ?_
 refine Jz 2 ?_
 refine Jcf [8,7,6,5,4,3,2,1,0] (runOk_fn ((U.np:Nat):Int) U.st B m U.l a (⟨Ap,qp,P,w.now,Gp,qg,G,((w.before:Nat):Int),Ff,qf,Fl⟩:Cl) hsk.ver om (by rw[hPl]) href ⟨by omega,by omega⟩ (by show List.length Fl≤12;omega) hdsk hga.2.2.1 hga.2.2.2 hcaps hcapd) ?_
 rintro _ _ ⟨d,rfl,rfl,hrun,_⟩
 refine Jz 3 ?_
 refine Jal fun b14=>?_
 refine Jz 5 ?_
 refine Jup5 (JlayRow (Jup3 (JlayRow (Jup3 (JlayRow ?_)))))
 obtain⟨hsml,hea,hel⟩:=run_smallD (c:=(⟨Ap,qp,P,w.now,Gp,qg,G,((w.before:Nat):Int),Ff,qf,Fl⟩:Cl)) (d:=d) om om hsk.ver (by rw[hPl]) href (by show Fl.length≤12;omega) hdsk hga hrun
 have hdk:DkOk (Cl.sm (⟨Ap,qp,P,w.now,Gp,qg,G,((w.before:Nat):Int),Ff,qf,Fl⟩:Cl) U.l) d.val:=by rw[hrun];exact run_dk _ _ ⟨rfl,fun i y hy=>by cases hy⟩
 refine Jz 21 ?_
 refine JnilRow (encI) 3 1 (To.del28 (To.del27 (Jdel26 (Jdel25 (Jdel23 (Jdel22 (Jdel21 (Jdel20 (Jdel16 (Jdel14 (Jup6 (Jup6 (Jup4 (Jup4 (Jup19 (Jup10 (Jup11 (Jup12 (Jup18 (Jup18 (Jup15 (Jup16 (Jup16 (Jup13 (Jup15 (Jup17 (Jup18 (Jup19 (JloopS (fun mz ρ Γ=>∃(Au:OA) (qu:Nat) (UL:List Int) (i:Nat) (j:Nat),ρ=[(7,pv b7),(10,pv b10),(12,pv b12),(14,pv b14),(15, .int .i64 0),(16,nv (w.before+j)),(17,vs Au UL qu),(74,vs d.Ae d.effs d.qe),(75,nv d.effs.length),(76,nv i)]∧Γ=[box b7 (cF F [nv oi, .string hd.name,vs hd.Ap hd.ps hd.qp,vs hd.Ab hd.body hd.qb,nv U.np, .int .i64 U.st,vs B U.l m,nv (nV c.vars),nv (nT c.vars),nv F.flags.length]) 45,box b10 [vs a.Av a.vars a.qv,vs a.At a.tabs a.qt,vs a.dk.A a.dk.l a.dk.q] 56,box b12 [vs Ap P qp, .int .i64 w.now,vs Gp G qg,nv w.before,vs Ff Fl qf] 64,box b14 [vs d.Av d.vars d.qv,vs d.At d.tabs d.qt,vs d.dk.A d.dk.l d.dk.q,vs d.Ae d.effs d.qe, .int .i64 d.cost] 70,rows encI 3 1 Au qu UL,ros Ins.cells B U.l,ros encI a.Av a.vars,ros Tb.cells a.At a.tabs,rosS encEn (a.tabs.map Tb.ar),ros encEn a.dk.A a.dk.l,ros encI Ap P,ros encB Gp G,ros encI Ff Fl,tabC,ros encI d.Av d.vars,ros Tb.cells d.At d.tabs,rosS encEn (d.tabs.map Tb.ar),ros encEn d.dk.A d.dk.l,ros Ef.cells d.Ae d.effs,rosS encI (d.effs.map Ef.ar)]∧mz=d.effs.length-i∧(i≤d.effs.length)∧(j=dkN ((d.effs.take i).map Ef.val))∧(UL=usL Fl ((w.before:Nat):Int) j)) (d.effs.length-0) ⟨⟨none,0,([]:List Int),0,0,rfl,rfl,rfl,(Nat.zero_le _),rfl,rfl⟩,sb⟩ ?_)))))))))))))))))))))))))))))
 rintro mz _ _ ⟨Au,qu,UL,i,j,rfl,rfl,rfl,hi,hj,hUL⟩
 have hji:j≤i:=by rw[hj];unfold dkN;refine Nat.le_trans (List.length_filter_le _ _) ?_;rw[List.length_map,List.length_take];omega
 have hULl:UL.length≤8:=by rw[hUL];exact Nat.le_trans (usL_few _ _ _) om
 have hwb:=hw.before
 refine Jz 6 ?_
 refine Jcp rfl ?_ ?_<;>intro k77
 obtain⟨x,hx⟩:=exg d.effs i om
 have hxf:(x.k=3∨x.k=4)→x.f=decide (((w.before+j:Nat):Int)∈Fl):=fun h=>by
  have h0:=hdk.f i x.val (by show(d.effs.map Ef.val)[i]?=_;rw[List.getElem?_map,hx];rfl) h
  have h1:d.val.effs.take i=(d.effs.take i).map Ef.val:=(List.map_take ..).symm
  rw[h1,←hj]at h0
  have h2:x.f=decide (((w.before:Nat):Int)+((j:Nat):Int)∈isort cmpI Fl):=h0
  rw[h2]
  exact decide_eq_decide.2 (by rw[isortI_mem,Int.natCast_add])
 refine Jz 8 ?_
 refine Jal fun b19=>?_
 refine Jz 6 ?_
 refine Jmeet (T:=Bool) (fun t=>([(7,pv b7),(10,pv b10),(12,pv b12),(14,pv b14),(15, .int .i64 0),(16,nv (w.before+j)),(17,vs Au UL qu),(74,vs d.Ae d.effs d.qe),(75,nv d.effs.length),(76,nv i),(19,pv b19),(87, .bool t)],[box b19 [.int .u8 x.k, .int .i64 x.to, .int .i64 x.h, .int .i64 x.d, .int .i64 x.key, .int .i64 x.v, .bool x.f,vs x.A x.args x.q] 86,box b7 (cF F [nv oi, .string hd.name,vs hd.Ap hd.ps hd.qp,vs hd.Ab hd.body hd.qb,nv U.np, .int .i64 U.st,vs B U.l m,nv (nV c.vars),nv (nT c.vars),nv F.flags.length]) 45,box b10 [vs a.Av a.vars a.qv,vs a.At a.tabs a.qt,vs a.dk.A a.dk.l a.dk.q] 56,box b12 [vs Ap P qp, .int .i64 w.now,vs Gp G qg,nv w.before,vs Ff Fl qf] 64,box b14 [vs d.Av d.vars d.qv,vs d.At d.tabs d.qt,vs d.dk.A d.dk.l d.dk.q,vs d.Ae d.effs d.qe, .int .i64 d.cost] 70,rows encI 3 1 Au qu UL,ros Ins.cells B U.l,ros encI a.Av a.vars,ros Tb.cells a.At a.tabs,rosS encEn (a.tabs.map Tb.ar),ros encEn a.dk.A a.dk.l,ros encI Ap P,ros encB Gp G,ros encI Ff Fl,tabC,ros encI d.Av d.vars,ros Tb.cells d.At d.tabs,rosS encEn (d.tabs.map Tb.ar),ros encEn d.dk.A d.dk.l,ros Ef.cells d.Ae d.effs,rosS encI (d.effs.map Ef.ar)])) (fun t=>t=(!(decide (x.k=3∨x.k=4)))) ?_ (fun t ht=>?_)
 refine Jz 3 ?_
 refine JgP ?_ ?_<;>intro g83
 refine Jz 6 ?_
 refine Jhe (decide (x.k≠4)) (by simp[g83]<;>omega) sb rfl
 refine Jz 6 ?_
 refine Jhe false (by simp[g83]<;>omega) sb rfl
 subst ht
 dsimp only
 refine Jcond rfl ?_ ?_<;>intro k87
 have hk3:¬(x.k=3∨x.k=4):=of_decide_eq_false (by rw[Bool.not_eq_true']at k87;exact k87)
 refine Jz 9 ?_
 refine Jdel0 (JagS (d.effs.length-(i+1)) om ⟨⟨Au,qu,UL,i+1,j,rfl,rfl,rfl,om,(by rw[dkE_snoc hx,if_neg hk3,hj]<;>rfl),hUL⟩,sb⟩)
 have hk3:x.k=3∨x.k=4:=of_decide_eq_true (by rw[Bool.not_eq_false']at k87;exact k87)
 refine Jz 17 ?_
 refine JloopS (fun mz ρ Γ=>∃(n2:Nat),ρ=[(7,pv b7),(10,pv b10),(12,pv b12),(14,pv b14),(15, .int .i64 0),(16,nv (w.before+j)),(17,vs Au UL qu),(19,pv b19),(74,vs d.Ae d.effs d.qe),(75,nv d.effs.length),(76,nv i),(20, .bool (decide (((w.before+j:Nat):Int)∈Fl.take n2))),(89,vs Ff Fl qf),(90,nv Fl.length),(91,nv n2)]∧Γ=[box b19 [.int .u8 x.k, .int .i64 x.to, .int .i64 x.h, .int .i64 x.d, .int .i64 x.key, .int .i64 x.v, .bool x.f,vs x.A x.args x.q] 86,box b7 (cF F [nv oi, .string hd.name,vs hd.Ap hd.ps hd.qp,vs hd.Ab hd.body hd.qb,nv U.np, .int .i64 U.st,vs B U.l m,nv (nV c.vars),nv (nT c.vars),nv F.flags.length]) 45,box b10 [vs a.Av a.vars a.qv,vs a.At a.tabs a.qt,vs a.dk.A a.dk.l a.dk.q] 56,box b12 [vs Ap P qp, .int .i64 w.now,vs Gp G qg,nv w.before,vs Ff Fl qf] 64,box b14 [vs d.Av d.vars d.qv,vs d.At d.tabs d.qt,vs d.dk.A d.dk.l d.dk.q,vs d.Ae d.effs d.qe, .int .i64 d.cost] 70,rows encI 3 1 Au qu UL,ros Ins.cells B U.l,ros encI a.Av a.vars,ros Tb.cells a.At a.tabs,rosS encEn (a.tabs.map Tb.ar),ros encEn a.dk.A a.dk.l,ros encI Ap P,ros encB Gp G,ros encI Ff Fl,tabC,ros encI d.Av d.vars,ros Tb.cells d.At d.tabs,rosS encEn (d.tabs.map Tb.ar),ros encEn d.dk.A d.dk.l,ros Ef.cells d.Ae d.effs,rosS encI (d.effs.map Ef.ar)]∧mz=Fl.length-n2∧(n2≤Fl.length)) (Fl.length-0) ⟨⟨0,rfl,rfl,rfl,(Nat.zero_le _)⟩,⟨rfl,rfl,rfl,rfl,rfl,rfl,rfl,rfl,rfl,rfl,rfl,(congrArg (fun b=>some (Value.bool b)) (decide_eq_false (fun h=>by cases h)).symm),rfl,rfl,rfl,trivial⟩⟩ ?_
 rintro mz _ _ ⟨n2,rfl,rfl,rfl,hn2⟩
 refine Jz 6 ?_
 refine Jcp rfl ?_ ?_<;>intro k92
 obtain⟨z,hz⟩:=exg Fl n2 om
 refine Jz 13 ?_
 refine JgP ?_ ?_<;>intro g96
 refine Jz 13 ?_
 refine JagS (Fl.length-(n2+1)) om ⟨⟨n2+1,rfl,rfl,rfl,om⟩,⟨rfl,rfl,rfl,rfl,rfl,rfl,rfl,rfl,rfl,rfl,rfl,(congrArg (fun b=>some (Value.bool b)) (by rw[←memI_succ hz,decide_eq_true g96];rfl)),rfl,rfl,rfl,trivial⟩⟩
 refine Jz 13 ?_
 refine JagS (Fl.length-(n2+1)) om ⟨⟨n2+1,rfl,rfl,rfl,om⟩,⟨rfl,rfl,rfl,rfl,rfl,rfl,rfl,rfl,rfl,rfl,rfl,(congrArg (fun b=>some (Value.bool b)) (by rw[←memI_succ hz,decide_eq_false g96];rfl)),rfl,rfl,rfl,trivial⟩⟩
 refine Jz 7 ?_
 have hbt:decide (((w.before+j:Nat):Int)∈Fl.take n2)=x.f:=by rw[hxf hk3,List.take_of_length_le om]
 rw[hbt]
 refine Jz 4 ?_
 refine Jr (Rd.as (v':= .bool false) (congrArg Value.bool (by first|rfl|(rw[beq_self_eq_true];rfl))) (Rd.neqB rfl underlying4 rfl rfl)) ?_
 refine Jz 11 ?_
 refine Jcond rfl ?_ ?_<;>intro k106
 have hin:((w.before:Nat):Int)+((j:Nat):Int)∈Fl:=by have h0:=hxf hk3;rw[k106]at h0;have:=of_decide_eq_true h0.symm;rwa[Int.natCast_add]at this
 refine Jz 3 ?_
 refine To.sn [nv (w.before+j)] fun b109=>?_
 refine Jge rfl rfl rfl (Ge.append1 encI_ok (i:=6) (j:=0) (el:=((w.before+j:Nat):Int)) rfl s62 rfl rfl rfl rfl rfl om om) ?_
 rintro _ _ ⟨A110,q110,rfl,rfl⟩
 refine Jz 15 ?_
 refine Jdel1 (Jdel0 (JagS (d.effs.length-(i+1)) om ⟨⟨A110,q110,(UL++[((w.before+j:Nat):Int)]),i+1,j+1,rfl,rfl,rfl,om,(by rw[dkE_snoc hx,if_pos hk3,hj]),(by rw[usL_succ,if_pos hin,←hUL]<;>rfl)⟩,sb⟩))
 have hin:¬((w.before:Nat):Int)+((j:Nat):Int)∈Fl:=by have h0:=hxf hk3;rw[k106]at h0;have:=of_decide_eq_false h0.symm;rwa[Int.natCast_add]at this
 refine Jz 14 ?_
 refine Jdel0 (JagS (d.effs.length-(i+1)) om ⟨⟨Au,qu,UL,i+1,j+1,rfl,rfl,rfl,om,(by rw[dkE_snoc hx,if_pos hk3,hj]),(by rw[usL_succ,if_neg hin,List.append_nil,←hUL])⟩,sb⟩)
 refine Jz 7 ?_
 have hjt:j=dkN (d.effs.map Ef.val):=by rw[hj,List.take_of_length_le om]
 refine Jfw [box b14 [vs d.Av d.vars d.qv,vs d.At d.tabs d.qt,vs d.dk.A d.dk.l d.dk.q,vs d.Ae d.effs d.qe, .int .i64 d.cost] 70,box b12 [vs Ap P qp, .int .i64 w.now,vs Gp G qg,nv w.before,vs Ff Fl qf] 64] [0,1,2,3,6,7,104,305,108,9,10,11] (ocs (oca 3 rfl) (ocs (oca 2 rfl) (ocn _))) ?_
 refine Fw.mo ?_
 refine Fw.f rfl (Rd.as (v':= .bool false) (congrArg Value.bool (decide_eq_false (fun h=>h rfl))) (Rd.neq rfl rfl rfl)) ?_
 refine Jz 5 ?_
 refine Fw.qf (disks_fn d.Ae d.qe d.effs om) (ocs (oca 18 rfl) (ocn _)) ?_
 refine Jz 1 ?_
 refine Fw.f rfl (Rd.sub64 rfl rfl rfl om) ?_
 refine Jz 4 ?_
 refine Jcp rfl ?_ ?_<;>intro k125
 exact absurd k125 om
 refine Jz 3 ?_
 have hN:((j:Nat):Int)=(runV (Cl.sm (⟨Ap,qp,P,w.now,Gp,qg,G,((w.before:Nat):Int),Ff,qf,Fl⟩:Cl) U.l) 1048576 (d0G a.vars (a.tabs.map Tb.l) a.dk.l)).disks:=by rw[←hrun];exact(by have h0:=hdk.n;rw[h0];exact congrArg _ hjt)
 refine Jup4 (JlayRow (Jz 7 ?_))
 refine Jdup 5 rfl rfl (Jdup 7 rfl rfl (Jdup 9 rfl rfl (Jdup 11 rfl rfl (Jdup 13 rfl rfl (Jdup 15 rfl rfl (Jdup 17 rfl rfl (Jdup 7 rfl rfl (Jdup 21 rfl rfl (Jz 2 ?_)))))))))
 refine Jr (Rd.lS (i:=10) (us:=[nv U.np, .int .i64 U.st,vs B U.l m]) rfl rfl r43 rfl (box_gives (n:=3) rfl) rfl) ?_
 refine Jz 2 ?_
 refine Jcf [8,7,6,5,4,3,2,1,0] (runOk_fn ((U.np:Nat):Int) U.st B m U.l a (⟨Ap,qp,P,w.now,Gp,qg,G,((w.before:Nat):Int),Au,qu,UL⟩:Cl) hsk.ver om (by rw[hPl]) href ⟨by omega,by omega⟩ (by show List.length UL≤12;omega) hdsk hga.2.2.1 hga.2.2.2 hcaps hcapd) ?_
 rintro _ _ ⟨d2,rfl,rfl,hrun2,_⟩
 refine Jz 3 ?_
 refine Jal fun b23=>?_
 refine Jz 5 ?_
 refine Jup5 (JlayRow (Jup3 (JlayRow (Jup3 (JlayRow ?_)))))
 have hv2:d.val=d2.val:=by
  rw[hrun,hrun2]
  exact(run_used (c:=(⟨Ap,qp,P,w.now,Gp,qg,G,((w.before:Nat):Int),Ff,qf,Fl⟩:Cl)) (N:=j) hN rfl (fun m h1 h2=>by rw[hUL,mem_usL];exact⟨fun h=>⟨⟨by show((w.before:Nat):Int)≤((w.before:Nat):Int)+m;omega,by show((w.before:Nat):Int)+m<((w.before:Nat):Int)+((j:Nat):Int);omega⟩,h⟩,fun h=>h.2⟩) Au qu).symm
 refine To.g (Jmk rfl rfl rfl (Mk.slice0R (α:=Int) (enc:=encI) rfl s62) ?_)
 rintro _ _ ⟨A136,rfl,rfl⟩
 refine Jm ?_
 refine Jge rfl rfl rfl (Ge.appendL encI_ok (i:=0) (m:=UL) rfl s62 rfl rfl rfl (src_ro (i:=8) rfl) om om) ?_
 rintro _ _ ⟨A138,q138,rfl,rfl⟩
 refine Jz 2 ?_
 refine Jr (Rd.add64 rfl rfl rfl om) ?_
 refine To.sn [nv (w.before+j), .int .i64 (((w.before+j:Nat):Int)+5)] fun b142=>?_
 refine Jas [rows encI 3 1 (some ⟨b142,0,none⟩) 2 [((w.before+j:Nat):Int),((w.before+j:Nat):Int)+5],rows encI 3 1 A138 q138 (([]:List Int)++UL),ros encI d2.Av d2.vars,ros Tb.cells d2.At d2.tabs,ros Ef.cells d2.Ae d2.effs,box b23 [vs d2.Av d2.vars d2.qv,vs d2.At d2.tabs d2.qt,vs d2.dk.A d2.dk.l d2.dk.q,vs d2.Ae d2.effs d2.qe, .int .i64 d2.cost] 70,rosS encEn (d2.tabs.map Tb.ar),ros encEn d2.dk.A d2.dk.l,rosS encI (d2.effs.map Ef.ar),ros encI Au UL,box b7 (cF F [nv oi, .string hd.name,vs hd.Ap hd.ps hd.qp,vs hd.Ab hd.body hd.qb,nv U.np, .int .i64 U.st,vs B U.l m,nv (nV c.vars),nv (nT c.vars),nv F.flags.length]) 45,box b10 [vs a.Av a.vars a.qv,vs a.At a.tabs a.qt,vs a.dk.A a.dk.l a.dk.q] 56,box b12 [vs Ap P qp, .int .i64 w.now,vs Gp G qg,nv w.before,vs Au UL qu] 64,box b14 [vs d.Av d.vars d.qv,vs d.At d.tabs d.qt,vs d.dk.A d.dk.l d.dk.q,vs d.Ae d.effs d.qe, .int .i64 d.cost] 70,ros Ins.cells B U.l,ros encI a.Av a.vars,ros Tb.cells a.At a.tabs,rosS encEn (a.tabs.map Tb.ar),ros encEn a.dk.A a.dk.l,ros encI Ap P,ros encB Gp G,ros encI Ff Fl,tabC,ros encI d.Av d.vars,ros Tb.cells d.At d.tabs,rosS encEn (d.tabs.map Tb.ar),ros encEn d.dk.A d.dk.l,ros Ef.cells d.Ae d.effs,rosS encI (d.effs.map Ef.ar)] rfl (Jge rfl rfl rfl (Ge.appendL encI_ok (i:=1) (m:=[((w.before+j:Nat):Int),((w.before+j:Nat):Int)+5]) rfl s62 rfl rfl rfl (src_row (i:=0) rfl) om om) ?_)
 rintro _ _ ⟨A143,q143,rfl,rfl⟩
 refine Jz 5 ?_
 refine Jas [rows encI 3 1 (some ⟨b142,0,none⟩) 2 [((w.before+j:Nat):Int),((w.before+j:Nat):Int)+5],rows encI 3 1 A143 q143 (([]:List Int)++UL++[((w.before+j:Nat):Int),((w.before+j:Nat):Int)+5]),ros encI d2.Av d2.vars,ros Tb.cells d2.At d2.tabs,ros Ef.cells d2.Ae d2.effs,box b23 [vs d2.Av d2.vars d2.qv,vs d2.At d2.tabs d2.qt,vs d2.dk.A d2.dk.l d2.dk.q,vs d2.Ae d2.effs d2.qe, .int .i64 d2.cost] 70,rosS encEn (d2.tabs.map Tb.ar),ros encEn d2.dk.A d2.dk.l,rosS encI (d2.effs.map Ef.ar),ros encI Au UL,box b7 (cF F [nv oi, .string hd.name,vs hd.Ap hd.ps hd.qp,vs hd.Ab hd.body hd.qb,nv U.np, .int .i64 U.st,vs B U.l m,nv (nV c.vars),nv (nT c.vars),nv F.flags.length]) 45,box b10 [vs a.Av a.vars a.qv,vs a.At a.tabs a.qt,vs a.dk.A a.dk.l a.dk.q] 56,box b12 [vs Ap P qp, .int .i64 w.now,vs Gp G qg,nv w.before,vs A143 (([]:List Int)++UL++[((w.before+j:Nat):Int),((w.before+j:Nat):Int)+5]) q143] 64,box b14 [vs d.Av d.vars d.qv,vs d.At d.tabs d.qt,vs d.dk.A d.dk.l d.dk.q,vs d.Ae d.effs d.qe, .int .i64 d.cost] 70,ros Ins.cells B U.l,ros encI a.Av a.vars,ros Tb.cells a.At a.tabs,rosS encEn (a.tabs.map Tb.ar),ros encEn a.dk.A a.dk.l,ros encI Ap P,ros encB Gp G,ros encI Ff Fl,tabC,ros encI d.Av d.vars,ros Tb.cells d.At d.tabs,rosS encEn (d.tabs.map Tb.ar),ros encEn d.dk.A d.dk.l,ros Ef.cells d.Ae d.effs,rosS encI (d.effs.map Ef.ar)] rfl ?_
 obtain⟨WL,hWL⟩:∃z0,z0=(([]:List Int)++UL++[((w.before+j:Nat):Int),((w.before+j:Nat):Int)+5]):=⟨_,rfl⟩
 rw[←hWL]
 have hWLl:WL.length≤10:=by rw[hWL];simp only[lap,lc1,ln0];omega
 refine Jup1 (JlayRow (Jz 2 ?_))
 refine Jr (Rd.lS (i:=10) (us:=[nv U.np, .int .i64 U.st,vs B U.l m]) rfl rfl r43 rfl (box_gives (n:=3) rfl) rfl) ?_
 refine Jz 2 ?_
 refine Jcf [14,14,14,14,14,14,14,0,14] (runOk_fn ((U.np:Nat):Int) U.st B m U.l a (⟨Ap,qp,P,w.now,Gp,qg,G,((w.before:Nat):Int),A143,q143,WL⟩:Cl) hsk.ver om (by rw[hPl]) href ⟨by omega,by omega⟩ (by show List.length WL≤12;omega) hdsk hga.2.2.1 hga.2.2.2 hcaps hcapd) ?_
 rintro _ _ ⟨d3,rfl,rfl,hrun3,_⟩
 refine Jz 3 ?_
 refine Jal fun b24=>?_
 refine Jz 5 ?_
 refine Jup5 (JlayRow (Jup3 (JlayRow (Jup3 (JlayRow ?_)))))
 have hv3:d.val=d3.val:=by
  rw[hrun,hrun3]
  exact(run_used (c:=(⟨Ap,qp,P,w.now,Gp,qg,G,((w.before:Nat):Int),Ff,qf,Fl⟩:Cl)) (W:=WL) (N:=j) hN rfl (fun m h1 h2=>by
   rw[hWL,List.nil_append,List.mem_append,hUL,mem_usL]
   simp only[List.mem_cons,List.not_mem_nil,or_false]
   exact⟨fun h=> .inl ⟨⟨by show((w.before:Nat):Int)≤((w.before:Nat):Int)+m;omega,by show((w.before:Nat):Int)+m<((w.before:Nat):Int)+((j:Nat):Int);omega⟩,h⟩,fun h=>h.elim (fun h=>h.2) fun h=>by exfalso;have h9:((w.before:Nat):Int)+m=((w.before+j:Nat):Int)∨((w.before:Nat):Int)+m=((w.before+j:Nat):Int)+5:=h;omega⟩) _ _).symm
 refine Jz 2 ?_
 refine Jr (Rd.as (v':= .bool true) (congrArg Value.bool (decide_eq_true rfl)) (Rd.eql rfl rfl rfl)) ?_
 refine Jz 2 ?_
 refine Jr (Rd.as (v':= .bool true) (congrArg Value.bool (decide_eq_true rfl)) (Rd.eql rfl rfl rfl)) ?_
 refine Jz 4 ?_
 refine Jvf (alike_fn d d2 hv2 hsml hea om) rfl (ocs (oca 21 rfl) (ocs (oca 22 rfl) (ocs (oca 23 rfl) (ocs (oca 24 rfl) (ocs (oca 25 rfl) (ocs (oca 26 rfl) (ocs (oca 8 rfl) (ocs (oca 9 rfl) (ocs (oca 12 rfl) (ocs (oca 13 rfl) (ocs (oca 10 rfl) (ocs (oca 14 rfl) (ocn _))))))))))))) ?_
 refine Jz 4 ?_
 refine Jvf (alike_fn d d3 hv3 hsml hea om) rfl (ocs (oca 21 rfl) (ocs (oca 22 rfl) (ocs (oca 23 rfl) (ocs (oca 24 rfl) (ocs (oca 25 rfl) (ocs (oca 26 rfl) (ocs (oca 0 rfl) (ocs (oca 1 rfl) (ocs (oca 4 rfl) (ocs (oca 5 rfl) (ocs (oca 2 rfl) (ocs (oca 6 rfl) (ocn _))))))))))))) ?_
 refine Jz 5 ?_
 refine Jdel26 (Jdel25 (Jdel24 (Jdel23 (Jdel22 (Jdel21 (Jdel20 (To.del19 (Jdel18 (Jdel17 (Jdel16 (Jdel15 (Jdel14 (Jdel13 (Jdel12 (Jdel11 (Jdel10 (Jdel9 (Jdel8 (Jdel7 (Jdel6 (Jdel5 (Jdel4 (Jdel3 (Jdel2 (Jdel1 (Jdel0 (Je1 results7 ?_)))))))))))))))))))))))))))
 rfl
end Go.Proofs.YtlihklladkagpaaGreatDoor

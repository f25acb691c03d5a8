/- Own text. -/
import Derived.Test.YtlihklladkagpaaGreatDoorEr
set_option maxHeartbeats 12000000
set_option maxRecDepth 100000
set_option linter.unusedVariables false
set_option linter.unusedSimpArgs false
namespace Go.Proofs.YtlihklladkagpaaGreatDoor
open Go.Proofs.Tryz
open Go.RowKit Go.Flow Go.Mem Go.Sep Go.In
theorem oks_efS{Γ:List Chunk}{l:List Ef}(i:Nat)(h:Γ[i]?=some (all (efK l))):∀w,oks Γ w→(rosS encI (l.map Ef.ar)).holds w:=fun w hw p hp=>by
 obtain⟨e,he,rfl⟩:=List.mem_map.1 hp
 have h1:=oks_all i h (c:=rows encI 2 1 e.A e.q e.args) (List.mem_map.2 ⟨e,he,rfl⟩) w hw
 exact oks_row (Γ:=[rows encI 2 1 e.A e.q e.args]) 0 rfl w (fun c hc=>by rw[List.mem_singleton.1 hc];exact h1)
theorem To.efHead{C:Cx}{ρ:Slots}{Γ:List Chunk}{K:Act→World→Prop}{l:List Ef}{i:Nat}{x:Ef}(hx:l[i]?=some x)(k:To C ρ (rows encI 2 1 x.A x.q x.args::all (efK (l.drop (i+1)))::Γ) K):To C ρ (all (efK (l.drop i))::Γ) K:=by
 have e:efK (l.drop i)=rows encI 2 1 x.A x.q x.args::efK (l.drop (i+1)):=by rw[dog hx];rfl
 rw[e]
 exact To.allOut 0 rfl k
theorem expure_fn(p:Pl)(hp:p.Ok)(a1 a2 a3:Nat)(h1:a1<256)(h2:a2<256)(h3:a3<256)(w:Wx)(hw:w.ok)(hwf:w.flags<256):
    Dz 8 [.agg (cL p []).toArray, .agg #[.int .u8 ((a1:Nat):Int), .int .u8 ((a2:Nat):Int), .int .u8 ((a3:Nat):Int)], .agg #[vs w.Av w.vars w.qv,vs w.At w.tabs w.qt,vs w.Ad w.disk w.qd,vs w.Aa w.args w.qa, .int .i64 w.now, .int .u8 ((w.flags:Nat):Int), .int .u8 ((w.before:Nat):Int),vs w.Af w.fail w.qf]] [all p.kids,glc,p10c,tabC,ros encI w.Av w.vars,ros encEn w.At w.tabs,ros encEn w.Ad w.disk,ros encI w.Aa w.args,ros encY w.Af w.fail] (fun v _=>v= .bool true):=by
 refine Does.en func8 ntmps8 fun w0=>?_
 refine Js (To.g (Jbo fun b3=>?_))
 refine Jbo fun b4=>?_
 refine Jbo fun b5=>?_
 refine Jz 4 ?_
 refine Jdup 6 rfl rfl (Jz 3 ?_)
 refine Jcf [4,4,4,0] (seek_fn p hp a1 a2 a3 h1 h2 h3) ?_
 rintro _ _ ⟨F,c,oi,vi,s,B,m,rfl,rfl,hG,hc,hvi⟩
 refine Jz 4 ?_
 refine Jal fun b7=>?_
 refine Jz 7 ?_
 refine Jas [box b7 (cF F [nv oi, .string ((hdOr (fndV s none (c.vers.take (vi+1)))).name), .slice ((hdOr (fndV s none (c.vers.take (vi+1)))).Ap) ((hdOr (fndV s none (c.vers.take (vi+1)))).ps.length) ((hdOr (fndV s none (c.vers.take (vi+1)))).qp), .slice ((hdOr (fndV s none (c.vers.take (vi+1)))).Ab) ((hdOr (fndV s none (c.vers.take (vi+1)))).body.length) ((hdOr (fndV s none (c.vers.take (vi+1)))).qb),nv ((pU F c (vi+1) s).np), .int .i64 ((pU F c (vi+1) s).st), .slice B ((pU F c (vi+1) s).l.length) m,nv (nV c.vars),nv (nT c.vars),nv F.flags.length]) 45,all (F.kids eR),rows Ins.cells 116 4 B m ((pU F c (vi+1) s).l),box b5 [vs w.Av w.vars w.qv,vs w.At w.tabs w.qt,vs w.Ad w.disk w.qd,vs w.Aa w.args w.qa, .int .i64 w.now, .int .u8 ((w.flags:Nat):Int), .int .u8 ((w.before:Nat):Int),vs w.Af w.fail w.qf] 31,box b4 [.int .u8 ((a1:Nat):Int), .int .u8 ((a2:Nat):Int), .int .u8 ((a3:Nat):Int)] 27,box b3 (cL p []) 25,tabC,ros encI w.Av w.vars,ros encEn w.At w.tabs,ros encEn w.Ad w.disk,ros encI w.Aa w.args,ros encY w.Af w.fail] rfl ?_
 obtain⟨U,hU⟩:∃z0,z0=(pU F c (vi+1) s):=⟨_,rfl⟩
 rw[←hU]
 refine Jas [box b7 (cF F [nv oi, .string ((hdOr (fndV s none (c.vers.take (vi+1)))).name), .slice ((hdOr (fndV s none (c.vers.take (vi+1)))).Ap) ((hdOr (fndV s none (c.vers.take (vi+1)))).ps.length) ((hdOr (fndV s none (c.vers.take (vi+1)))).qp), .slice ((hdOr (fndV s none (c.vers.take (vi+1)))).Ab) ((hdOr (fndV s none (c.vers.take (vi+1)))).body.length) ((hdOr (fndV s none (c.vers.take (vi+1)))).qb),nv U.np, .int .i64 U.st,vs B U.l m,nv (nV c.vars),nv (nT c.vars),nv F.flags.length]) 45,all (F.kids eR),rows Ins.cells 116 4 B m U.l,box b5 [vs w.Av w.vars w.qv,vs w.At w.tabs w.qt,vs w.Ad w.disk w.qd,vs w.Aa w.args w.qa, .int .i64 w.now, .int .u8 ((w.flags:Nat):Int), .int .u8 ((w.before:Nat):Int),vs w.Af w.fail w.qf] 31,box b4 [.int .u8 ((a1:Nat):Int), .int .u8 ((a2:Nat):Int), .int .u8 ((a3:Nat):Int)] 27,box b3 (cL p []) 25,tabC,ros encI w.Av w.vars,ros encEn w.At w.tabs,ros encEn w.Ad w.disk,ros encI w.Aa w.args,ros encY w.Af w.fail] rfl ?_
 obtain⟨hd,hhd⟩:∃z0,z0=(hdOr (fndV s none (c.vers.take (vi+1)))):=⟨_,rfl⟩
 rw[←hhd]
 obtain⟨is,his⟩:∃z0,z0=(fndV s none (c.vers.take (vi+1))).isSome:=⟨_,rfl⟩
 rw[←his]
 refine To.g (Jvf (awake_fn) rfl (ocs (oca 6 rfl) (ocn _)) ?_)
 refine Jz 11 ?_
 refine Jcond rfl ?_ ?_<;>intro k39
 refine Js (To.g (Jvf (awake_fn) rfl (ocs (oca 6 rfl) (ocn _)) ?_))
 refine Jz 8 ?_
 refine Jdel11 (Jdel10 (Jdel9 (Jdel8 (Jdel7 (Jdel6 (Jdel5 (Jdel4 (Jdel3 (Jdel2 (Jdel1 (Jdel0 (Je1 results8 ?_))))))))))))
 rfl
 refine Jz 3 ?_
 have hsk:SkOk U:=by rw[hU];exact sk_ok hG hc ⟨by omega,by omega⟩ (by rw[←his];simpa using k39)
 have hskf:∀i∈U.l,referB i (nV c.vars) (nT c.vars) F.flags.length=true:=by rw[hU];exact sk_ref hG hc ⟨by omega,by omega⟩ (by rw[←his];simpa using k39)
 obtain⟨hnv,hnt⟩:=nVT hG hc
 have hnf:=(goodX hG).flags
 have hnp:=hsk.np
 refine Jz 11 ?_
 refine Jcf [7,7,7,7,7] (make_fn w hw hwf (nV c.vars) (nT c.vars) U.np F.flags.length om om om om) ?_
 rintro _ _ ⟨a,b,Ff,qf,Fl,Ap,qp,P,Gp,qg,G,rfl,rfl,hva,hvb,hFl,hP,hG2,hcaps,hcapd⟩
 refine Jz 5 ?_
 refine Jal fun b10=>?_
 refine Jal fun b11=>?_
 refine Jal fun b12=>?_
 refine Jal fun b13=>?_
 refine Jz 7 ?_
 refine Jup4 (JlayRow (Jup5 (JlayRow (Jup8 (JlayRow (Jup9 (JlayRow (Jup12 (JlayRow (Jup13 (JlayRow (Jup14 (JlayRow (Jup17 (JlayRow ?_)))))))))))))))
 have hga:=stV_good hva om
 have hgb:=stV_good hvb om
 have hab:a.val=b.val:=hva.trans hvb.symm
 have hdsk:0≤((w.before:Nat):Int)∧((w.before:Nat):Int)≤1000000000:=by have:=hw.before;omega
 have hul:=hsk.len
 have hv1:=hga.1
 have hv2:=hga.2.1
 have hPl:P.length=U.np:=by rw[hP,pad_len]
 have hGl:G.length=F.flags.length:=by rw[hG2,flags_len]
 have href:∀x∈U.l,referB x a.vars.length a.tabs.length G.length=true:=by rw[hv1,hv2,hGl];exact hskf
 have hgal:∀x∈a.tabs,x.l.length≤1000000:=fun x hx=>by have:=(hga.2.2.1 x hx).len;omega
 have hgdl:=hga.2.2.2.len
 refine Jdup 0 rfl rfl (Jdup 8 rfl rfl (Jdup 8 rfl rfl (Jdup 15 rfl rfl (Jdup 17 rfl rfl (Jdup 8 rfl rfl (Jdup 8 rfl rfl (Jdup 8 rfl rfl (Jdup 29 rfl rfl (Jz 2 ?_)))))))))
 refine Jr (Rd.lS (i:=25) (us:=[nv U.np, .int .i64 U.st,vs B U.l m]) rfl rfl r43 rfl (box_gives (n:=3) rfl) rfl) ?_
 refine Jz 2 ?_
 refine Jcf [8,7,6,5,4,3,2,1,0] (runOk_fn ((U.np:Nat):Int) U.st B m U.l a (⟨Ap,qp,P,w.now,Gp,qg,G,((w.before:Nat):Int),Ff,qf,Fl⟩:Cl) hsk.ver om (by rw[hPl]) href ⟨by omega,by omega⟩ (by show Fl.length≤12;omega) hdsk hga.2.2.1 hga.2.2.2 hcaps hcapd) ?_
 rintro _ _ ⟨d,rfl,rfl,hrun,_⟩
 refine Jz 3 ?_
 refine Jal fun b14=>?_
 refine Jz 5 ?_
 refine Jdup 7 rfl rfl (Jdup 15 rfl rfl (Jdup 15 rfl rfl (Jdup 22 rfl rfl (Jdup 24 rfl rfl (Jdup 15 rfl rfl (Jdup 15 rfl rfl (Jdup 15 rfl rfl (Jdup 36 rfl rfl (Jz 2 ?_)))))))))
 refine Jr (Rd.lS (i:=32) (us:=[nv U.np, .int .i64 U.st,vs B U.l m]) rfl rfl r43 rfl (box_gives (n:=3) rfl) rfl) ?_
 refine Jz 2 ?_
 refine Jcf [8,7,6,5,4,3,2,1,0] (runOk_fn ((U.np:Nat):Int) U.st B m U.l a (⟨Ap,qp,P,w.now,Gp,qg,G,((w.before:Nat):Int),Ff,qf,Fl⟩:Cl) hsk.ver om (by rw[hPl]) href ⟨by omega,by omega⟩ (by show Fl.length≤12;omega) hdsk hga.2.2.1 hga.2.2.2 hcaps hcapd) ?_
 rintro _ _ ⟨d2,rfl,rfl,hrun2,_⟩
 refine Jz 3 ?_
 refine Jal fun b16=>?_
 refine Jz 6 ?_
 obtain⟨hsml,hea,hel⟩:=run_smallD (c:=(⟨Ap,qp,P,w.now,Gp,qg,G,((w.before:Nat):Int),Ff,qf,Fl⟩:Cl)) (d:=d) om om hsk.ver (by rw[hPl]) href (by show Fl.length≤12;omega) hdsk hga hrun
 obtain⟨hsml2,hea2,hel2⟩:=run_smallD (c:=(⟨Ap,qp,P,w.now,Gp,qg,G,((w.before:Nat):Int),Ff,qf,Fl⟩:Cl)) (d:=d2) om om hsk.ver (by rw[hPl]) href (by show Fl.length≤12;omega) hdsk hga hrun2
 have hvl:d.vars.length≤1000000000000:=hsml.1
 have htl:d.tabs.length≤1000000000000:=hsml.2.1
 have hv2d:d.val=d2.val:=hrun.trans hrun2.symm
 refine Jz 10 ?_
 refine Jvf ((sameState_fn a b ⟨by omega,by omega,hgal,by omega⟩).mono (R':=fun v _=>v= .bool true) (fun v _ h=>by rw[h];exact congrArg Value.bool (decide_eq_true hab))) rfl (ocs (oca 21 rfl) (ocs (oca 20 rfl) (ocs (oca 26 rfl) (ocs (oca 27 rfl) (ocs (oca 19 rfl) (ocs (oca 18 rfl) (ocs (oca 28 rfl) (ocs (oca 29 rfl) (ocn _))))))))) ?_
 refine Jz 5 ?_
 refine Jvf (alike_fn d d2 hv2d hsml hea om) rfl (ocs (oks_row 8 rfl) (ocs (oks_row 9 rfl) (ocs (oca 10 rfl) (ocs (oca 11 rfl) (ocs (oks_row 12 rfl) (ocs (oks_efS 13 rfl) (ocs (oks_row 1 rfl) (ocs (oks_row 2 rfl) (ocs (oca 3 rfl) (ocs (oca 4 rfl) (ocs (oks_row 5 rfl) (ocs (oks_efS 6 rfl) (ocn _))))))))))))) ?_
 refine Jz 3 ?_
 refine Jsub [(0, .agg (cL p []).toArray),(1, .agg #[.int .u8 ((a1:Nat):Int), .int .u8 ((a2:Nat):Int), .int .u8 ((a3:Nat):Int)]),(2, .agg #[vs w.Av w.vars w.qv,vs w.At w.tabs w.qt,vs w.Ad w.disk w.qd,vs w.Aa w.args w.qa, .int .i64 w.now, .int .u8 ((w.flags:Nat):Int), .int .u8 ((w.before:Nat):Int),vs w.Af w.fail w.qf]),(3,pv b3),(4,pv b4),(5,pv b5),(6, .bool false),(7,pv b7),(8, .bool is),(9, .bool true),(39, .bool (!is)),(10,pv b10),(11,pv b11),(12,pv b12),(14,pv b14),(15, .int .i64 0),(16,pv b16),(17, .int .i64 0),(93, .bool false)] sb (Jz 15 ?_)
 refine Jup8 (JloopS (fun mz ρ Γ=>∃(V:List Int) (i:Nat),ρ=[(7,pv b7),(10,pv b10),(11,pv b11),(12,pv b12),(14,pv b14),(16,pv b16),(97,nv d.vars.length),(98,nv i)]∧Γ=[rows encI 2 1 d.Av d.qv V,box b16 [vs d2.Av d2.vars d2.qv,vs d2.At d2.tabs d2.qt,vs d2.dk.A d2.dk.l d2.dk.q,vs d2.Ae d2.effs d2.qe, .int .i64 d2.cost] 70,rows encI 2 1 d2.Av d2.qv d2.vars,rows Tb.cells 54 1 d2.At d2.qt d2.tabs,rosS encEn (d2.tabs.map Tb.ar),ros encEn d2.dk.A d2.dk.l,rows Ef.cells 86 8 d2.Ae d2.qe d2.effs,all (efK d2.effs),box b14 [vs d.Av d.vars d.qv,vs d.At d.tabs d.qt,vs d.dk.A d.dk.l d.dk.q,vs d.Ae d.effs d.qe, .int .i64 d.cost] 70,rows Tb.cells 54 1 d.At d.qt d.tabs,rosS encEn (d.tabs.map Tb.ar),ros encEn d.dk.A d.dk.l,rows Ef.cells 86 8 d.Ae d.qe d.effs,all (efK d.effs),ros Ins.cells B U.l,ros encI Ff Fl,ros encB Gp G,ros encI Ap P,ros Tb.cells b.At b.tabs,ros encI b.Av b.vars,ros Tb.cells a.At a.tabs,ros encI a.Av a.vars,box b13 [vs Ap P qp, .int .i64 w.now,vs Gp G qg,nv w.before,vs Ff Fl qf] 65,box b12 [vs Ap P qp, .int .i64 w.now,vs Gp G qg,nv w.before,vs Ff Fl qf] 64,box b11 [vs b.Av b.vars b.qv,vs b.At b.tabs b.qt,vs b.dk.A b.dk.l b.dk.q] 60,box b10 [vs a.Av a.vars a.qv,vs a.At a.tabs a.qt,vs a.dk.A a.dk.l a.dk.q] 56,rosS encEn (a.tabs.map Tb.ar),ros encEn a.dk.A a.dk.l,rosS encEn (b.tabs.map Tb.ar),ros encEn b.dk.A b.dk.l,box b7 (cF F [nv oi, .string (hd.name),vs hd.Ap hd.ps hd.qp,vs hd.Ab hd.body hd.qb,nv U.np, .int .i64 U.st,vs B U.l m,nv (nV c.vars),nv (nT c.vars),nv F.flags.length]) 45,all (F.kids eR),box b5 [vs w.Av w.vars w.qv,vs w.At w.tabs w.qt,vs w.Ad w.disk w.qd,vs w.Aa w.args w.qa, .int .i64 w.now, .int .u8 ((w.flags:Nat):Int), .int .u8 ((w.before:Nat):Int),vs w.Af w.fail w.qf] 31,box b4 [.int .u8 ((a1:Nat):Int), .int .u8 ((a2:Nat):Int), .int .u8 ((a3:Nat):Int)] 27,box b3 (cL p []) 25,tabC]∧mz=d.vars.length-i∧(i≤d.vars.length)∧(V.length=d.vars.length)) (d.vars.length-0) ⟨⟨d.vars,0,rfl,rfl,rfl,(Nat.zero_le _),rfl⟩,sb⟩ ?_)
 rintro mz _ _ ⟨V,i,rfl,rfl,rfl,hi,hV⟩
 refine Jz 6 ?_
 refine Jcp rfl ?_ ?_<;>intro k99
 have hiV:i<V.length:=om
 obtain⟨z,hz⟩:=exg V i om
 refine Jz 13 ?_
 refine Jr (Rd.as (v':=vs d.Av V d.qv) (congrArg (fun n:Nat=>Value.slice d.Av n d.qv) hV.symm) (Rd.ld (i:=8) rfl rfl c28 rfl (bg1 rfl))) ?_
 refine Jz 3 ?_
 refine Jr (Rd.addW rfl rfl rfl) ?_
 refine Jz 1 ?_
 refine To.u (Up.store (i:=0) rfl rfl rfl c2 rfl rfl (rows_takes encI_ok (y:=(W64 (z+1))) (by decide) om)) ?_
 refine Jz 8 ?_
 refine JagS (d.vars.length-(i+1)) om ⟨⟨(V.set i (W64 (z+1))),i+1,rfl,rfl,rfl,om,(by rw[List.length_set];exact hV)⟩,sb⟩
 refine Jz 16 ?_
 refine Jup9 (JloopS (fun mz ρ Γ=>∃(T:List Tb) (i:Nat),ρ=[(7,pv b7),(10,pv b10),(11,pv b11),(12,pv b12),(14,pv b14),(16,pv b16),(113,nv d.tabs.length),(114,nv i)]∧Γ=[rows Tb.cells 54 1 d.At d.qt T,rows encI 2 1 d.Av d.qv V,box b16 [vs d2.Av d2.vars d2.qv,vs d2.At d2.tabs d2.qt,vs d2.dk.A d2.dk.l d2.dk.q,vs d2.Ae d2.effs d2.qe, .int .i64 d2.cost] 70,rows encI 2 1 d2.Av d2.qv d2.vars,rows Tb.cells 54 1 d2.At d2.qt d2.tabs,rosS encEn (d2.tabs.map Tb.ar),ros encEn d2.dk.A d2.dk.l,rows Ef.cells 86 8 d2.Ae d2.qe d2.effs,all (efK d2.effs),box b14 [vs d.Av d.vars d.qv,vs d.At d.tabs d.qt,vs d.dk.A d.dk.l d.dk.q,vs d.Ae d.effs d.qe, .int .i64 d.cost] 70,rosS encEn (d.tabs.map Tb.ar),ros encEn d.dk.A d.dk.l,rows Ef.cells 86 8 d.Ae d.qe d.effs,all (efK d.effs),ros Ins.cells B U.l,ros encI Ff Fl,ros encB Gp G,ros encI Ap P,ros Tb.cells b.At b.tabs,ros encI b.Av b.vars,ros Tb.cells a.At a.tabs,ros encI a.Av a.vars,box b13 [vs Ap P qp, .int .i64 w.now,vs Gp G qg,nv w.before,vs Ff Fl qf] 65,box b12 [vs Ap P qp, .int .i64 w.now,vs Gp G qg,nv w.before,vs Ff Fl qf] 64,box b11 [vs b.Av b.vars b.qv,vs b.At b.tabs b.qt,vs b.dk.A b.dk.l b.dk.q] 60,box b10 [vs a.Av a.vars a.qv,vs a.At a.tabs a.qt,vs a.dk.A a.dk.l a.dk.q] 56,rosS encEn (a.tabs.map Tb.ar),ros encEn a.dk.A a.dk.l,rosS encEn (b.tabs.map Tb.ar),ros encEn b.dk.A b.dk.l,box b7 (cF F [nv oi, .string (hd.name),vs hd.Ap hd.ps hd.qp,vs hd.Ab hd.body hd.qb,nv U.np, .int .i64 U.st,vs B U.l m,nv (nV c.vars),nv (nT c.vars),nv F.flags.length]) 45,all (F.kids eR),box b5 [vs w.Av w.vars w.qv,vs w.At w.tabs w.qt,vs w.Ad w.disk w.qd,vs w.Aa w.args w.qa, .int .i64 w.now, .int .u8 ((w.flags:Nat):Int), .int .u8 ((w.before:Nat):Int),vs w.Af w.fail w.qf] 31,box b4 [.int .u8 ((a1:Nat):Int), .int .u8 ((a2:Nat):Int), .int .u8 ((a3:Nat):Int)] 27,box b3 (cL p []) 25,tabC]∧mz=d.tabs.length-i∧(i≤d.tabs.length)∧(T.length=d.tabs.length)) (d.tabs.length-0) ⟨⟨d.tabs,0,rfl,rfl,rfl,(Nat.zero_le _),rfl⟩,sb⟩ ?_)
 rintro mz _ _ ⟨T,i,rfl,rfl,rfl,hi,hT⟩
 refine Jz 6 ?_
 refine Jcp rfl ?_ ?_<;>intro k115
 have hiT:i<T.length:=om
 obtain⟨y,hy⟩:=exg T i om
 refine Jz 10 ?_
 refine Jknow (p:=d.At=some ⟨blk d.At,ofs d.At,none⟩) (fun w hw=>rows_some encTb (by decide) (l:=T) om 0 rfl hw) (fun hAt=>?_)
 refine Jflow [box b14 [vs d.Av d.vars d.qv,vs d.At d.tabs d.qt,vs d.dk.A d.dk.l d.dk.q,vs d.Ae d.effs d.qe, .int .i64 d.cost] 70] [⟨0,[],0⟩,⟨1,[],0⟩,⟨3,[],0⟩,⟨4,[],0⟩,⟨5,[],2⟩,⟨6,[5],4⟩,⟨2,[],1⟩,⟨7,[5,6],0⟩,⟨8,[5,6],5⟩] mixed.h (by kernel_rfl) (ocs (oca 9 rfl) (ocn _)) (Jz 3 ?_)
 refine Fw.f rfl (.bd [.int .i64 1099511627776, .int .i64 1]) ?_
 refine Fw.sn [.int .i64 1099511627776, .int .i64 1] fun b122=>?_
 refine Fw.callM rfl rfl rfl rfl rfl .fc (tof_fn (some ⟨b122,0,none⟩) 1 [(1099511627776,1)] (by decide)) rfl (ocs (oks_row 0 rfl) (ocn _)) ?_
 rintro _ _ ⟨Bt,qt,rfl,rfl⟩
 refine⟨rfl,?_⟩
 refine Fw.r rfl (Rd.as (v':=vs d.At T d.qt) (congrArg (fun n:Nat=>Value.slice d.At n d.qt) hT.symm) (Rd.ld (i:=9) rfl rfl c51 rfl (bg1 rfl))) ?_
 refine Fw.f rfl (Rd.as (v':= .pointer (some ⟨blk d.At,ofs d.At+i*1,none⟩)) rfl (Rd.indexS (j:=i) hAt rfl rfl rfl s51 hiT)) ?_
 refine Fw.up rfl rfl rfl (Up.storeS (i:=2) (us:=Tb.cells (⟨Bt,qt,(ofT [(1099511627776,1)])⟩:Tb)) rfl rfl rfl r54 (encTb.len _) rfl rfl (rows_takes encTb (by decide) om)) (ocs (oca 11 rfl) (ocn _)) ?_
 refine Jz 8 ?_
 refine Jdel1 (Jdel0 (JagS (d.tabs.length-(i+1)) om ⟨⟨(T.set i (⟨Bt,qt,(ofT [(1099511627776,1)])⟩:Tb)),i+1,rfl,rfl,rfl,om,(by rw[List.length_set];exact hT)⟩,sb⟩))
 refine Jz 15 ?_
 refine Jup13 (JloopS (fun mz ρ Γ=>∃(i:Nat),ρ=[(7,pv b7),(10,pv b10),(11,pv b11),(12,pv b12),(14,pv b14),(16,pv b16),(128,nv d.effs.length),(129,nv i)]∧Γ=[all (efK (d.effs.drop i)),rows Tb.cells 54 1 d.At d.qt T,rows encI 2 1 d.Av d.qv V,box b16 [vs d2.Av d2.vars d2.qv,vs d2.At d2.tabs d2.qt,vs d2.dk.A d2.dk.l d2.dk.q,vs d2.Ae d2.effs d2.qe, .int .i64 d2.cost] 70,rows encI 2 1 d2.Av d2.qv d2.vars,rows Tb.cells 54 1 d2.At d2.qt d2.tabs,rosS encEn (d2.tabs.map Tb.ar),ros encEn d2.dk.A d2.dk.l,rows Ef.cells 86 8 d2.Ae d2.qe d2.effs,all (efK d2.effs),box b14 [vs d.Av d.vars d.qv,vs d.At d.tabs d.qt,vs d.dk.A d.dk.l d.dk.q,vs d.Ae d.effs d.qe, .int .i64 d.cost] 70,rosS encEn (d.tabs.map Tb.ar),ros encEn d.dk.A d.dk.l,rows Ef.cells 86 8 d.Ae d.qe d.effs,ros Ins.cells B U.l,ros encI Ff Fl,ros encB Gp G,ros encI Ap P,ros Tb.cells b.At b.tabs,ros encI b.Av b.vars,ros Tb.cells a.At a.tabs,ros encI a.Av a.vars,box b13 [vs Ap P qp, .int .i64 w.now,vs Gp G qg,nv w.before,vs Ff Fl qf] 65,box b12 [vs Ap P qp, .int .i64 w.now,vs Gp G qg,nv w.before,vs Ff Fl qf] 64,box b11 [vs b.Av b.vars b.qv,vs b.At b.tabs b.qt,vs b.dk.A b.dk.l b.dk.q] 60,box b10 [vs a.Av a.vars a.qv,vs a.At a.tabs a.qt,vs a.dk.A a.dk.l a.dk.q] 56,rosS encEn (a.tabs.map Tb.ar),ros encEn a.dk.A a.dk.l,rosS encEn (b.tabs.map Tb.ar),ros encEn b.dk.A b.dk.l,box b7 (cF F [nv oi, .string (hd.name),vs hd.Ap hd.ps hd.qp,vs hd.Ab hd.body hd.qb,nv U.np, .int .i64 U.st,vs B U.l m,nv (nV c.vars),nv (nT c.vars),nv F.flags.length]) 45,all (F.kids eR),box b5 [vs w.Av w.vars w.qv,vs w.At w.tabs w.qt,vs w.Ad w.disk w.qd,vs w.Aa w.args w.qa, .int .i64 w.now, .int .u8 ((w.flags:Nat):Int), .int .u8 ((w.before:Nat):Int),vs w.Af w.fail w.qf] 31,box b4 [.int .u8 ((a1:Nat):Int), .int .u8 ((a2:Nat):Int), .int .u8 ((a3:Nat):Int)] 27,box b3 (cL p []) 25,tabC]∧mz=d.effs.length-i∧(i≤d.effs.length)) (d.effs.length-0) ⟨⟨0,rfl,rfl,rfl,(Nat.zero_le _)⟩,sb⟩ ?_)
 rintro mz _ _ ⟨i,rfl,rfl,rfl,hi⟩
 refine Jz 6 ?_
 refine Jcp rfl ?_ ?_<;>intro k130
 obtain⟨x,hx⟩:=exg d.effs i om
 have hxa:=hea x (mog hx)
 refine Jz 11 ?_
 refine To.efHead hx (Jz 12 ?_)
 refine JloopS (fun mz ρ Γ=>∃(L:List Int) (k:Nat),ρ=[(7,pv b7),(10,pv b10),(11,pv b11),(12,pv b12),(14,pv b14),(16,pv b16),(20,nv i),(128,nv d.effs.length),(129,nv i),(138,nv x.args.length),(139,nv k)]∧Γ=[rows encI 2 1 x.A x.q L,all (efK (d.effs.drop (i+1))),rows Tb.cells 54 1 d.At d.qt T,rows encI 2 1 d.Av d.qv V,box b16 [vs d2.Av d2.vars d2.qv,vs d2.At d2.tabs d2.qt,vs d2.dk.A d2.dk.l d2.dk.q,vs d2.Ae d2.effs d2.qe, .int .i64 d2.cost] 70,rows encI 2 1 d2.Av d2.qv d2.vars,rows Tb.cells 54 1 d2.At d2.qt d2.tabs,rosS encEn (d2.tabs.map Tb.ar),ros encEn d2.dk.A d2.dk.l,rows Ef.cells 86 8 d2.Ae d2.qe d2.effs,all (efK d2.effs),box b14 [vs d.Av d.vars d.qv,vs d.At d.tabs d.qt,vs d.dk.A d.dk.l d.dk.q,vs d.Ae d.effs d.qe, .int .i64 d.cost] 70,rosS encEn (d.tabs.map Tb.ar),ros encEn d.dk.A d.dk.l,rows Ef.cells 86 8 d.Ae d.qe d.effs,ros Ins.cells B U.l,ros encI Ff Fl,ros encB Gp G,ros encI Ap P,ros Tb.cells b.At b.tabs,ros encI b.Av b.vars,ros Tb.cells a.At a.tabs,ros encI a.Av a.vars,box b13 [vs Ap P qp, .int .i64 w.now,vs Gp G qg,nv w.before,vs Ff Fl qf] 65,box b12 [vs Ap P qp, .int .i64 w.now,vs Gp G qg,nv w.before,vs Ff Fl qf] 64,box b11 [vs b.Av b.vars b.qv,vs b.At b.tabs b.qt,vs b.dk.A b.dk.l b.dk.q] 60,box b10 [vs a.Av a.vars a.qv,vs a.At a.tabs a.qt,vs a.dk.A a.dk.l a.dk.q] 56,rosS encEn (a.tabs.map Tb.ar),ros encEn a.dk.A a.dk.l,rosS encEn (b.tabs.map Tb.ar),ros encEn b.dk.A b.dk.l,box b7 (cF F [nv oi, .string (hd.name),vs hd.Ap hd.ps hd.qp,vs hd.Ab hd.body hd.qb,nv U.np, .int .i64 U.st,vs B U.l m,nv (nV c.vars),nv (nT c.vars),nv F.flags.length]) 45,all (F.kids eR),box b5 [vs w.Av w.vars w.qv,vs w.At w.tabs w.qt,vs w.Ad w.disk w.qd,vs w.Aa w.args w.qa, .int .i64 w.now, .int .u8 ((w.flags:Nat):Int), .int .u8 ((w.before:Nat):Int),vs w.Af w.fail w.qf] 31,box b4 [.int .u8 ((a1:Nat):Int), .int .u8 ((a2:Nat):Int), .int .u8 ((a3:Nat):Int)] 27,box b3 (cL p []) 25,tabC]∧mz=x.args.length-k∧(k≤x.args.length)∧(L.length=x.args.length)) (x.args.length-0) ⟨⟨x.args,0,rfl,rfl,rfl,(Nat.zero_le _),rfl⟩,sb⟩ ?_
 rintro mz _ _ ⟨L,k,rfl,rfl,rfl,hk,hL⟩
 refine Jz 6 ?_
 refine Jcp rfl ?_ ?_<;>intro k140
 have hkL:k<L.length:=om
 obtain⟨z2,hz2⟩:=exg L k om
 refine Jz 16 ?_
 refine Jr (Rd.as (v':=vs x.A L x.q) (congrArg (fun n:Nat=>Value.slice x.A n x.q) hL.symm) (Rd.ld (i:=14) rfl rfl c28 rfl (gvt (rwg encEf hx) rfl))) ?_
 refine Jz 3 ?_
 refine Jr (Rd.addW rfl rfl rfl) ?_
 refine Jz 1 ?_
 refine To.u (Up.store (i:=0) rfl rfl rfl c2 rfl rfl (rows_takes encI_ok (y:=(W64 (z2+1))) (by decide) om)) ?_
 refine Jz 8 ?_
 refine JagS (x.args.length-(k+1)) om ⟨⟨(L.set k (W64 (z2+1))),k+1,rfl,rfl,rfl,om,(by rw[List.length_set];exact hL)⟩,sb⟩
 refine Jz 11 ?_
 refine Jdel0 (JagS (d.effs.length-(i+1)) om ⟨⟨i+1,rfl,rfl,rfl,om⟩,sb⟩)
 refine Jz 6 ?_
 refine Jdel0 (Jdel0 (Jdel0 (Jdel8 (Jdel8 (Jdel8 (Jdup 8 rfl rfl (Jdup 16 rfl rfl (Jdup 16 rfl rfl (Jdup 23 rfl rfl (Jdup 25 rfl rfl (Jdup 16 rfl rfl (Jdup 16 rfl rfl (Jdup 16 rfl rfl (Jdup 37 rfl rfl (Jz 2 ?_)))))))))))))))
 refine Jr (Rd.lS (i:=33) (us:=[nv U.np, .int .i64 U.st,vs B U.l m]) rfl rfl r43 rfl (box_gives (n:=3) rfl) rfl) ?_
 refine Jz 2 ?_
 refine Jcf [8,7,6,5,4,3,2,1,0] (runOk_fn ((U.np:Nat):Int) U.st B m U.l a (⟨Ap,qp,P,w.now,Gp,qg,G,((w.before:Nat):Int),Ff,qf,Fl⟩:Cl) hsk.ver om (by rw[hPl]) href ⟨by omega,by omega⟩ (by show Fl.length≤12;omega) hdsk hga.2.2.1 hga.2.2.2 hcaps hcapd) ?_
 rintro _ _ ⟨d3,rfl,rfl,hrun3,_⟩
 refine Jz 3 ?_
 refine Jal fun b22=>?_
 refine Jz 5 ?_
 have hv3d:d2.val=d3.val:=hrun2.trans hrun3.symm
 refine Jz 6 ?_
 refine Jvf ((sameState_fn a b ⟨by omega,by omega,hgal,by omega⟩).mono (R':=fun v _=>v= .bool true) (fun v _ h=>by rw[h];exact congrArg Value.bool (decide_eq_true hab))) rfl (ocs (oca 22 rfl) (ocs (oca 21 rfl) (ocs (oca 27 rfl) (ocs (oca 28 rfl) (ocs (oca 20 rfl) (ocs (oca 19 rfl) (ocs (oca 29 rfl) (ocs (oca 30 rfl) (ocn _))))))))) ?_
 refine Jz 4 ?_
 refine Jvf (alike_fn d2 d3 hv3d hsml2 hea2 om) rfl (ocs (oks_row 8 rfl) (ocs (oks_row 9 rfl) (ocs (oca 10 rfl) (ocs (oca 11 rfl) (ocs (oks_row 12 rfl) (ocs (oks_efS 13 rfl) (ocs (oks_row 1 rfl) (ocs (oks_row 2 rfl) (ocs (oca 3 rfl) (ocs (oca 4 rfl) (ocs (oks_row 5 rfl) (ocs (oks_efS 6 rfl) (ocn _))))))))))))) ?_
 refine Jz 5 ?_
 refine To.del36 (To.del35 (To.del34 (To.del33 (To.del32 (To.del31 (To.del30 (To.del29 (To.del28 (To.del27 (To.del26 (To.del25 (Jdel24 (To.del23 (Jdel22 (To.del21 (To.del20 (To.del19 (Jdel18 (Jdel17 (Jdel16 (Jdel15 (Jdel14 (Jdel13 (Jdel12 (Jdel11 (Jdel10 (Jdel9 (Jdel8 (Jdel7 (Jdel6 (Jdel5 (Jdel4 (Jdel3 (Jdel2 (Jdel1 (Jdel0 (Je1 results8 ?_)))))))))))))))))))))))))))))))))))))
 rfl
end Go.Proofs.YtlihklladkagpaaGreatDoor

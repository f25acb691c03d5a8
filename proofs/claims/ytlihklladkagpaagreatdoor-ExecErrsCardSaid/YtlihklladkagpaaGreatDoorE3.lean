/- Own text. -/
import Derived.Test.YtlihklladkagpaaGreatDoorXh
set_option maxHeartbeats 12000000
set_option maxRecDepth 100000
set_option linter.unusedVariables false
set_option linter.unusedSimpArgs false
namespace Go.Proofs.YtlihklladkagpaaGreatDoor
open Go.Proofs.Tryz
open Go.RowKit Go.Flow Go.Mem Go.Sep Go.In
def encD(x:Int×Int×Int×Int):List Value:=[.int .i64 x.1, .int .i64 x.2.1, .int .i64 x.2.2.1, .int .i64 x.2.2.2]
instance encD_ok:Enc encD 4:=⟨fun _=>rfl,fun e u hu=>by
 simp only[encD,List.mem_cons,List.not_mem_nil,or_false]at hu
 rcases hu with rfl|rfl|rfl|rfl<;>rfl⟩
def dL(a b d:Nat):List (Int×Int×Int×Int):=[(0,0,1,0),(-((a:Nat):Int),0,0,0),(0,-((b:Nat):Int),0,0),(0,0,0,-((d:Nat):Int)),(2,1,0,3)]
theorem dL_mem{a b d:Nat}{x:Int×Int×Int×Int}(h:x∈dL a b d)(n:Nat):∃n0 n1 n2 n3:Nat,(((a:Nat):Int)+x.1=n0∧n0≤a+2)∧(((b:Nat):Int)+x.2.1=n1∧n1≤b+1)∧(((n:Nat):Int)+x.2.2.1=n2∧n2≤n+1)∧((d:Nat):Int)+x.2.2.2=n3∧n3≤d+3:=by
 unfold dL at h
 simp only[List.mem_cons,List.not_mem_nil,or_false]at h
 rcases h with rfl|rfl|rfl|rfl|rfl
 ·exact⟨a,b,n+1,d,by dsimp only;omega,by dsimp only;omega,by dsimp only;omega,by dsimp only;omega,by omega⟩
 ·exact⟨0,b,n,d,by dsimp only;omega,by dsimp only;omega,by dsimp only;omega,by dsimp only;omega,by omega⟩
 ·exact⟨a,0,n,d,by dsimp only;omega,by dsimp only;omega,by dsimp only;omega,by dsimp only;omega,by omega⟩
 ·exact⟨a,b,n,0,by dsimp only;omega,by dsimp only;omega,by dsimp only;omega,by dsimp only;omega,by omega⟩
 ·exact⟨a+2,b+1,n,d+3,by dsimp only;omega,by dsimp only;omega,by dsimp only;omega,by dsimp only;omega,by omega⟩
theorem errs_fn(p:Pl)(hp:p.Ok)(a1 a2 a3:Nat)(h1:a1<256)(h2:a2<256)(h3:a3<256)(w:Wx)(hw:w.ok)(hwf:w.flags<256):
    Dz 3 [.agg (cL p []).toArray, .agg #[.int .u8 ((a1:Nat):Int), .int .u8 ((a2:Nat):Int), .int .u8 ((a3:Nat):Int)], .agg #[vs w.Av w.vars w.qv,vs w.At w.tabs w.qt,vs w.Ad w.disk w.qd,vs w.Aa w.args w.qa, .int .i64 w.now, .int .u8 ((w.flags:Nat):Int), .int .u8 ((w.before:Nat):Int),vs w.Af w.fail w.qf]] [all p.kids,glc,p10c,tabC,ros encI w.Av w.vars,ros encEn w.At w.tabs,ros encEn w.Ad w.disk,ros encI w.Aa w.args,ros encY w.Af w.fail] (fun v _=>v= .bool true):=by
 refine Does.en func3 ntmps3 fun w0=>?_
 refine Js (To.g (Jbo fun b3=>?_))
 refine Jbo fun b4=>?_
 refine Jbo fun b5=>?_
 refine Jz 4 ?_
 refine Jdup 6 rfl rfl (Jz 3 ?_)
 refine Jcf [4,4,4,0] (seek_fn p hp a1 a2 a3 h1 h2 h3) ?_
 rintro _ _ ⟨F,c,oi,vi,s,B,m,rfl,rfl,hG,hc,hvi⟩
 refine Jz 4 ?_
 refine Jal fun b7=>?_
 refine Jz 7 ?_
 refine Jas [box b7 (cF F [nv oi, .string ((hdOr (fndV s none (c.vers.take (vi+1)))).name), .slice ((hdOr (fndV s none (c.vers.take (vi+1)))).Ap) ((hdOr (fndV s none (c.vers.take (vi+1)))).ps.length) ((hdOr (fndV s none (c.vers.take (vi+1)))).qp), .slice ((hdOr (fndV s none (c.vers.take (vi+1)))).Ab) ((hdOr (fndV s none (c.vers.take (vi+1)))).body.length) ((hdOr (fndV s none (c.vers.take (vi+1)))).qb),nv ((pU F c (vi+1) s).np), .int .i64 ((pU F c (vi+1) s).st), .slice B ((pU F c (vi+1) s).l.length) m,nv (nV c.vars),nv (nT c.vars),nv F.flags.length]) 45,all (F.kids eR),rows Ins.cells 116 4 B m ((pU F c (vi+1) s).l),box b5 [vs w.Av w.vars w.qv,vs w.At w.tabs w.qt,vs w.Ad w.disk w.qd,vs w.Aa w.args w.qa, .int .i64 w.now, .int .u8 ((w.flags:Nat):Int), .int .u8 ((w.before:Nat):Int),vs w.Af w.fail w.qf] 31,box b4 [.int .u8 ((a1:Nat):Int), .int .u8 ((a2:Nat):Int), .int .u8 ((a3:Nat):Int)] 27,box b3 (cL p []) 25,tabC,ros encI w.Av w.vars,ros encEn w.At w.tabs,ros encEn w.Ad w.disk,ros encI w.Aa w.args,ros encY w.Af w.fail] rfl ?_
 obtain⟨U,hU⟩:∃z0,z0=(pU F c (vi+1) s):=⟨_,rfl⟩
 rw[←hU]
 refine Jas [box b7 (cF F [nv oi, .string ((hdOr (fndV s none (c.vers.take (vi+1)))).name), .slice ((hdOr (fndV s none (c.vers.take (vi+1)))).Ap) ((hdOr (fndV s none (c.vers.take (vi+1)))).ps.length) ((hdOr (fndV s none (c.vers.take (vi+1)))).qp), .slice ((hdOr (fndV s none (c.vers.take (vi+1)))).Ab) ((hdOr (fndV s none (c.vers.take (vi+1)))).body.length) ((hdOr (fndV s none (c.vers.take (vi+1)))).qb),nv U.np, .int .i64 U.st,vs B U.l m,nv (nV c.vars),nv (nT c.vars),nv F.flags.length]) 45,all (F.kids eR),rows Ins.cells 116 4 B m U.l,box b5 [vs w.Av w.vars w.qv,vs w.At w.tabs w.qt,vs w.Ad w.disk w.qd,vs w.Aa w.args w.qa, .int .i64 w.now, .int .u8 ((w.flags:Nat):Int), .int .u8 ((w.before:Nat):Int),vs w.Af w.fail w.qf] 31,box b4 [.int .u8 ((a1:Nat):Int), .int .u8 ((a2:Nat):Int), .int .u8 ((a3:Nat):Int)] 27,box b3 (cL p []) 25,tabC,ros encI w.Av w.vars,ros encEn w.At w.tabs,ros encEn w.Ad w.disk,ros encI w.Aa w.args,ros encY w.Af w.fail] rfl ?_
 obtain⟨hd,hhd⟩:∃z0,z0=(hdOr (fndV s none (c.vers.take (vi+1)))):=⟨_,rfl⟩
 rw[←hhd]
 obtain⟨is,his⟩:∃z0,z0=(fndV s none (c.vers.take (vi+1))).isSome:=⟨_,rfl⟩
 rw[←his]
 refine To.g (Jvf (awake_fn) rfl (ocs (oca 6 rfl) (ocn _)) ?_)
 refine Jz 11 ?_
 refine Jcond rfl ?_ ?_<;>intro k34
 refine Js (To.g (Jvf (awake_fn) rfl (ocs (oca 6 rfl) (ocn _)) ?_))
 refine Jz 8 ?_
 refine Jdel11 (Jdel10 (Jdel9 (Jdel8 (Jdel7 (Jdel6 (Jdel5 (Jdel4 (Jdel3 (Jdel2 (Jdel1 (Jdel0 (Je1 results3 ?_))))))))))))
 rfl
 refine Jz 4 ?_
 have hsk:SkOk U:=by rw[hU];exact sk_ok hG hc ⟨by omega,by omega⟩ (by rw[←his];simpa using k34)
 obtain⟨hnv,hnt⟩:=nVT hG hc
 have hnf:=(goodX hG).flags
 have hnp:=hsk.np
 refine To.g (Jr (.bd [.int .i64 0, .int .i64 0, .int .i64 1, .int .i64 0]) ?_)
 refine Jz 2 ?_
 refine Jr (Rd.as (v':= .int .i64 (-((nV c.vars:Nat):Int))) (congrArg (Value.int .i64) (IntWalk.i64_in _ om)) (Rd.negW rfl rfl)) ?_
 refine Jr (.bd [.int .i64 (-((nV c.vars:Nat):Int)), .int .i64 0, .int .i64 0, .int .i64 0]) ?_
 refine Jz 2 ?_
 refine Jr (Rd.as (v':= .int .i64 (-((nT c.vars:Nat):Int))) (congrArg (Value.int .i64) (IntWalk.i64_in _ om)) (Rd.negW rfl rfl)) ?_
 refine Jr (.bd [.int .i64 0, .int .i64 (-((nT c.vars:Nat):Int)), .int .i64 0, .int .i64 0]) ?_
 refine Jz 2 ?_
 refine Jr (Rd.as (v':= .int .i64 (-((F.flags.length:Nat):Int))) (congrArg (Value.int .i64) (IntWalk.i64_in _ om)) (Rd.negW rfl rfl)) ?_
 refine Jr (.bd [.int .i64 0, .int .i64 0, .int .i64 0, .int .i64 (-((F.flags.length:Nat):Int))]) ?_
 refine Jr (.bd [.int .i64 2, .int .i64 1, .int .i64 0, .int .i64 3]) ?_
 refine To.sn [.int .i64 0, .int .i64 0, .int .i64 1, .int .i64 0, .int .i64 (-((nV c.vars:Nat):Int)), .int .i64 0, .int .i64 0, .int .i64 0, .int .i64 0, .int .i64 (-((nT c.vars:Nat):Int)), .int .i64 0, .int .i64 0, .int .i64 0, .int .i64 0, .int .i64 0, .int .i64 (-((F.flags.length:Nat):Int)), .int .i64 2, .int .i64 1, .int .i64 0, .int .i64 3] fun b53=>?_
 refine Jz 5 ?_
 refine Jas [rows encD 49 4 (some ⟨b53,0,none⟩) 5 (dL (nV c.vars) (nT c.vars) F.flags.length),box b7 (cF F [nv oi, .string (hd.name),vs hd.Ap hd.ps hd.qp,vs hd.Ab hd.body hd.qb,nv U.np, .int .i64 U.st,vs B U.l m,nv (nV c.vars),nv (nT c.vars),nv F.flags.length]) 45,all (F.kids eR),rows Ins.cells 116 4 B m U.l,box b5 [vs w.Av w.vars w.qv,vs w.At w.tabs w.qt,vs w.Ad w.disk w.qd,vs w.Aa w.args w.qa, .int .i64 w.now, .int .u8 ((w.flags:Nat):Int), .int .u8 ((w.before:Nat):Int),vs w.Af w.fail w.qf] 31,box b4 [.int .u8 ((a1:Nat):Int), .int .u8 ((a2:Nat):Int), .int .u8 ((a3:Nat):Int)] 27,box b3 (cL p []) 25,tabC,ros encI w.Av w.vars,ros encEn w.At w.tabs,ros encEn w.Ad w.disk,ros encI w.Aa w.args,ros encY w.Af w.fail] rfl (Jup3 (JlayRow (Jdel6 (Jdel5 (Jdel3 (Jup9 (Jup9 (Jup9 (Jup9 (Jup9 (Jup5 (Jup6 (Jup7 (Jup8 (JloopS (fun mz ρ Γ=>∃(i:Nat),ρ=[(5,pv b5),(7,pv b7),(53, .slice (some ⟨b53,0,none⟩) 5 5),(54, .int .i64 5),(55,nv i)]∧Γ=[box b5 [vs w.Av w.vars w.qv,vs w.At w.tabs w.qt,vs w.Ad w.disk w.qd,vs w.Aa w.args w.qa, .int .i64 w.now, .int .u8 ((w.flags:Nat):Int), .int .u8 ((w.before:Nat):Int),vs w.Af w.fail w.qf] 31,box b7 (cF F [nv oi, .string hd.name,vs hd.Ap hd.ps hd.qp,vs hd.Ab hd.body hd.qb,nv U.np, .int .i64 U.st,vs B U.l m,nv (nV c.vars),nv (nT c.vars),nv F.flags.length]) 45,rows encD 49 4 (some ⟨b53,0,none⟩) 5 (dL (nV c.vars) (nT c.vars) F.flags.length),ros Ins.cells B U.l,ros encI w.Av w.vars,ros encEn w.At w.tabs,ros encEn w.Ad w.disk,ros encI w.Aa w.args,ros encY w.Af w.fail,tabC]∧mz=5-i∧(i≤5)) (5-0) ⟨⟨0,rfl,rfl,rfl,(Nat.zero_le _)⟩,sb⟩ ?_)))))))))))))))
 rintro mz _ _ ⟨i,rfl,rfl,rfl,hi⟩
 refine Jz 6 ?_
 refine Jcp rfl ?_ ?_<;>intro k56
 have hil:i<(dL (nV c.vars) (nT c.vars) F.flags.length).length:=by show i<5;omega
 obtain⟨x,hx⟩:∃z0,(dL (nV c.vars) (nT c.vars) F.flags.length)[i]?=some z0:=⟨(dL (nV c.vars) (nT c.vars) F.flags.length)[i]'hil,gge _⟩
 obtain⟨n0,n1,n2,n3,⟨e0,l0⟩,⟨e1,l1⟩,⟨e2,l2⟩,e3,l3⟩:=dL_mem (mog hx) U.np
 refine Jz 8 ?_
 refine Jal fun b11=>?_
 refine Jz 4 ?_
 refine Jdup 5 rfl rfl (Jdup 7 rfl rfl (Jdup 9 rfl rfl (Jdup 11 rfl rfl (Jdup 13 rfl rfl (Jz 4 ?_)))))
 refine Jr (Rd.indexArr (j:=0) rfl (ArrTy.of (size:=1) underlying49 (by kernel_rfl)) rfl rfl (by decide)) ?_
 refine Jz 1 ?_
 refine Jr (Rd.as (v':=nv n0) (congrArg (Value.int .i64) om) (Rd.add64 rfl rfl rfl om)) ?_
 refine Jz 2 ?_
 refine Jr (Rd.indexArr (j:=1) rfl (ArrTy.of (size:=1) underlying49 (by kernel_rfl)) rfl rfl (by decide)) ?_
 refine Jz 1 ?_
 refine Jr (Rd.as (v':=nv n1) (congrArg (Value.int .i64) om) (Rd.add64 rfl rfl rfl om)) ?_
 refine Jz 3 ?_
 refine Jr (Rd.indexArr (j:=2) rfl (ArrTy.of (size:=1) underlying49 (by kernel_rfl)) rfl rfl (by decide)) ?_
 refine Jz 1 ?_
 refine Jr (Rd.as (v':=nv n2) (congrArg (Value.int .i64) om) (Rd.add64 rfl rfl rfl om)) ?_
 refine Jz 2 ?_
 refine Jr (Rd.indexArr (j:=3) rfl (ArrTy.of (size:=1) underlying49 (by kernel_rfl)) rfl rfl (by decide)) ?_
 refine Jz 1 ?_
 refine Jr (Rd.as (v':=nv n3) (congrArg (Value.int .i64) om) (Rd.add64 rfl rfl rfl om)) ?_
 refine Jcf [4,3,2,1,0] (make_fn w hw hwf n0 n1 n2 n3 om om om om) ?_
 rintro _ _ ⟨a,b,Ff,qf,Fl,Ap,qp,P,Gp,qg,G,rfl,rfl,hva,hvb,hFl,hP,hG2,hcaps,hcapd⟩
 refine Jz 5 ?_
 refine Jal fun b12=>?_
 refine Jal fun b13=>?_
 refine Jal fun b14=>?_
 refine Jal fun b15=>?_
 refine Jz 7 ?_
 refine Jup4 (JlayRow (Jup5 (JlayRow (Jup8 (JlayRow (Jup9 (JlayRow (Jup12 (JlayRow (Jup13 (JlayRow (Jup14 (JlayRow ?_)))))))))))))
 have hga:=stV_good hva om
 have hgb:=stV_good hvb om
 have hlv:b.vars.length=a.vars.length:=by rw[hga.1,hgb.1]
 have hlt2:b.tabs.length=a.tabs.length:=by rw[hga.2.1,hgb.2.1]
 have hdsk:0≤((w.before:Nat):Int)∧((w.before:Nat):Int)≤1000000000:=by have:=hw.before;omega
 have hul:=hsk.len
 have hv1:=hga.1
 have hv2:=hga.2.1
 refine Jdup 19 rfl rfl (Jdup 26 rfl rfl (Jz 2 ?_))
 refine Jr (Rd.lS (i:=19) (us:=[nv U.np, .int .i64 U.st,vs B U.l m]) rfl rfl r43 rfl (box_gives (n:=3) rfl) rfl) ?_
 refine Jz 2 ?_
 refine Jcf [1,7,6,10,10,3,2,1,0] (runAny_fn ((U.np:Nat):Int) U.st B m U.l a (⟨Ap,qp,P,w.now,Gp,qg,G,((w.before:Nat):Int),Ff,qf,Fl⟩:Cl) hsk.ver om ⟨by omega,by omega⟩ (by show Fl.length≤12;omega) hdsk hga.2.2.1 hga.2.2.2 hcaps hcapd) ?_
 rintro _ _ ⟨(⟨hfit,d,rfl⟩|⟨hfit,rfl⟩),rfl⟩
 refine Jz 3 ?_
 refine Jal fun b16=>?_
 refine Jz 5 ?_
 refine Jfw [box b7 (cF F [nv oi, .string hd.name,vs hd.Ap hd.ps hd.qp,vs hd.Ab hd.body hd.qb,nv U.np, .int .i64 U.st,vs B U.l m,nv (nV c.vars),nv (nT c.vars),nv F.flags.length]) 45,box b13 [vs b.Av b.vars b.qv,vs b.At b.tabs b.qt,vs b.dk.A b.dk.l b.dk.q] 60,box b15 [vs Ap P qp, .int .i64 w.now,vs Gp G qg,nv w.before,vs Ff Fl qf] 65] [0,1,2,5,6,103,404,107,108,109,5310,5011,5012,5013,5014,5015,5016,5017,5018,5019] (ocs (oca 11 rfl) (ocs (oca 5 rfl) (ocs (oca 3 rfl) (ocn _)))) ?_
 refine Jz 5 ?_
 refine Fw.r rfl (Rd.lS (i:=11) (us:=[nv U.np, .int .i64 U.st,vs B U.l m]) rfl rfl r43 rfl (box_gives (n:=3) rfl) rfl) ?_
 refine Fw.callM rfl rfl rfl rfl rfl .fc (instrs_fn ((U.np:Nat):Int) U.st B m U.l om hsk.ops) rfl (ocs (oca 13 rfl) (ocn _)) ?_
 rintro _ _ ⟨Bi,qi,rfl,rfl⟩
 refine⟨rfl,?_⟩
 refine Jz 3 ?_
 refine Fw.qf ((rfits_fn Bi qi ((U.np:Nat):Int) U.l b (⟨Ap,qp,P,w.now,Gp,qg,G,((w.before:Nat):Int),Ff,qf,Fl⟩:Cl) om).mono (R':=fun v _=>v= .bool true) (fun v _ h=>by rw[h];exact congrArg Value.bool (decide_eq_true (by rw[hlv,hlt2];exact hfit)))) (ocs (oks_row 0 rfl) (ocn _)) ?_
 refine Fw.f rfl (Rd.as (v':= .bool false) (congrArg Value.bool (by first|rfl|(rw[beq_self_eq_true];rfl))) (Rd.neqB rfl underlying4 rfl rfl)) ?_
 refine Jz 19 ?_
 refine Jdel10 (Jdel9 (Jdel8 (Jdel7 (Jdel6 (Jdel5 (Jdel4 (Jdel3 (Jdel2 (Jdel1 (Jdel0 (JagS (5-(i+1)) om ⟨⟨i+1,rfl,rfl,rfl,om⟩,sb⟩)))))))))))
 refine Jz 3 ?_
 refine Jal fun b16=>?_
 refine Jz 5 ?_
 refine Jfw [box b7 (cF F [nv oi, .string hd.name,vs hd.Ap hd.ps hd.qp,vs hd.Ab hd.body hd.qb,nv U.np, .int .i64 U.st,vs B U.l m,nv (nV c.vars),nv (nT c.vars),nv F.flags.length]) 45,box b13 [vs b.Av b.vars b.qv,vs b.At b.tabs b.qt,vs b.dk.A b.dk.l b.dk.q] 60,box b15 [vs Ap P qp, .int .i64 w.now,vs Gp G qg,nv w.before,vs Ff Fl qf] 65] [0,1,2,5,6,103,404,107,108,109,5310,5011,5012,5013,5014,5015,5016,5017,5018,5019] (ocs (oca 11 rfl) (ocs (oca 5 rfl) (ocs (oca 3 rfl) (ocn _)))) ?_
 refine Jz 5 ?_
 refine Fw.r rfl (Rd.lS (i:=11) (us:=[nv U.np, .int .i64 U.st,vs B U.l m]) rfl rfl r43 rfl (box_gives (n:=3) rfl) rfl) ?_
 refine Fw.callM rfl rfl rfl rfl rfl .fc (instrs_fn ((U.np:Nat):Int) U.st B m U.l om hsk.ops) rfl (ocs (oca 13 rfl) (ocn _)) ?_
 rintro _ _ ⟨Bi,qi,rfl,rfl⟩
 refine⟨rfl,?_⟩
 refine Jz 3 ?_
 refine Fw.qf ((rfits_fn Bi qi ((U.np:Nat):Int) U.l b (⟨Ap,qp,P,w.now,Gp,qg,G,((w.before:Nat):Int),Ff,qf,Fl⟩:Cl) om).mono (R':=fun v _=>v= .bool false) (fun v _ h=>by rw[h];exact congrArg Value.bool (decide_eq_false (by rw[hlv,hlt2];exact hfit)))) (ocs (oks_row 0 rfl) (ocn _)) ?_
 refine Fw.f rfl (Rd.as (v':= .bool false) (congrArg Value.bool (by first|rfl|(rw[beq_self_eq_true];rfl))) (Rd.neqB rfl underlying4 rfl rfl)) ?_
 refine Jz 19 ?_
 refine Jdel10 (Jdel9 (Jdel8 (Jdel7 (Jdel6 (Jdel5 (Jdel4 (Jdel3 (Jdel2 (Jdel1 (Jdel0 (JagS (5-(i+1)) om ⟨⟨i+1,rfl,rfl,rfl,om⟩,sb⟩)))))))))))
 refine Jz 11 ?_
 refine Jdel9 (Jdel8 (Jdel7 (Jdel6 (Jdel5 (Jdel4 (Jdel3 (Jdel2 (Jdel1 (Jdel0 (Je1 results3 ?_))))))))))
 rfl
end Go.Proofs.YtlihklladkagpaaGreatDoor

/- Own text. -/
import Derived.Test.YtlihklladkagpaaGreatDoorEq
set_option maxHeartbeats 12000000
set_option maxRecDepth 100000
set_option linter.unusedVariables false
set_option linter.unusedSimpArgs false
namespace Go.Proofs.YtlihklladkagpaaGreatDoor
open Go.Proofs.Tryz
open Go.RowKit Go.Flow Go.Mem Go.Sep Go.In
theorem sdE_snoc{l:List Ef}{i:Nat}{x:Ef}(h:l[i]?=some x):sdN ((l.take (i+1)).map Ef.val)=sdN ((l.take i).map Ef.val)+(if x.k=1∨x.k=2 then 1 else 0):=by
 rw[take_of_get h,List.map_append];exact sdN_snoc _ _
theorem dkE_snoc{l:List Ef}{i:Nat}{x:Ef}(h:l[i]?=some x):dkN ((l.take (i+1)).map Ef.val)=dkN ((l.take i).map Ef.val)+(if x.k=3∨x.k=4 then 1 else 0):=by
 rw[take_of_get h,List.map_append];exact dkN_snoc _ _
theorem disks_fn(A:OA)(q:Nat)(l:List Ef)(hl:l.length≤100000000):
    Dz 19 [vs A l q] [ros Ef.cells A l] (fun v _=>v=nv (dkN (l.map Ef.val))):=by
 refine Does.en func19 ntmps19 fun w0=>?_
 refine Jz 19 ?_
 refine JloopS (fun mz ρ Γ=>∃(n:Nat) (i:Nat),ρ=[(3,nv n),(6,vs A l q),(7,nv l.length),(8,nv i)]∧Γ=[ros Ef.cells A l]∧mz=l.length-i∧(i≤l.length)∧(n=dkN ((l.take i).map Ef.val))) (l.length-0) ⟨⟨0,0,rfl,rfl,rfl,(Nat.zero_le _),rfl⟩,sb⟩ ?_
 rintro mz _ _ ⟨n,i,rfl,rfl,rfl,hi,hn⟩
 have hni:n≤i:=by rw[hn];unfold dkN;refine Nat.le_trans (List.length_filter_le _ _) ?_;rw[List.length_map,List.length_take];omega
 refine Jz 6 ?_
 refine Jcp rfl ?_ ?_<;>intro k9
 obtain⟨x,hx⟩:=exg l i om
 refine Jz 8 ?_
 refine Jal fun b5=>?_
 refine Jz 8 ?_
 refine JgP ?_ ?_<;>intro g15
 refine Jz 19 ?_
 refine Jdel0 (JagS (l.length-(i+1)) om ⟨⟨n+1,i+1,rfl,rfl,rfl,om,(by rw[dkE_snoc hx,if_pos om,hn]<;>rfl)⟩,sb⟩)
 refine Jz 6 ?_
 refine Jcp rfl ?_ ?_<;>intro k19
 refine Jz 12 ?_
 refine Jdel0 (JagS (l.length-(i+1)) om ⟨⟨n+1,i+1,rfl,rfl,rfl,om,(by rw[dkE_snoc hx,if_pos om,hn]<;>rfl)⟩,sb⟩)
 refine Jz 8 ?_
 refine Jdel0 (JagS (l.length-(i+1)) om ⟨⟨n,i+1,rfl,rfl,rfl,om,(by rw[dkE_snoc hx,if_neg om,hn]<;>rfl)⟩,sb⟩)
 refine Jz 12 ?_
 refine Je1 results19 ?_
 rw[hn,List.take_of_length_le om]
theorem bounds_fn(p:Pl)(hp:p.Ok)(a1 a2 a3:Nat)(h1:a1<256)(h2:a2<256)(h3:a3<256)(w:Wx)(hw:w.ok)(hwf:w.flags<256):
    Dz 6 [.agg (cL p []).toArray, .agg #[.int .u8 ((a1:Nat):Int), .int .u8 ((a2:Nat):Int), .int .u8 ((a3:Nat):Int)], .agg #[vs w.Av w.vars w.qv,vs w.At w.tabs w.qt,vs w.Ad w.disk w.qd,vs w.Aa w.args w.qa, .int .i64 w.now, .int .u8 ((w.flags:Nat):Int), .int .u8 ((w.before:Nat):Int),vs w.Af w.fail w.qf]] [all p.kids,glc,p10c,tabC,ros encI w.Av w.vars,ros encEn w.At w.tabs,ros encEn w.Ad w.disk,ros encI w.Aa w.args,ros encY w.Af w.fail] (fun v _=>v= .bool true):=by
 refine Does.en func6 ntmps6 fun w0=>?_
 refine Js (To.g (Jbo fun b3=>?_))
 refine Jbo fun b4=>?_
 refine Jbo fun b5=>?_
 refine Jz 4 ?_
 refine Jdup 6 rfl rfl (Jz 3 ?_)
 refine Jcf [4,4,4,0] (seek_fn p hp a1 a2 a3 h1 h2 h3) ?_
 rintro _ _ ⟨F,c,oi,vi,s,B,m,rfl,rfl,hG,hc,hvi⟩
 refine Jz 4 ?_
 refine Jal fun b7=>?_
 refine Jz 7 ?_
 refine Jas [box b7 (cF F [nv oi, .string ((hdOr (fndV s none (c.vers.take (vi+1)))).name), .slice ((hdOr (fndV s none (c.vers.take (vi+1)))).Ap) ((hdOr (fndV s none (c.vers.take (vi+1)))).ps.length) ((hdOr (fndV s none (c.vers.take (vi+1)))).qp), .slice ((hdOr (fndV s none (c.vers.take (vi+1)))).Ab) ((hdOr (fndV s none (c.vers.take (vi+1)))).body.length) ((hdOr (fndV s none (c.vers.take (vi+1)))).qb),nv ((pU F c (vi+1) s).np), .int .i64 ((pU F c (vi+1) s).st), .slice B ((pU F c (vi+1) s).l.length) m,nv (nV c.vars),nv (nT c.vars),nv F.flags.length]) 45,all (F.kids eR),rows Ins.cells 116 4 B m ((pU F c (vi+1) s).l),box b5 [vs w.Av w.vars w.qv,vs w.At w.tabs w.qt,vs w.Ad w.disk w.qd,vs w.Aa w.args w.qa, .int .i64 w.now, .int .u8 ((w.flags:Nat):Int), .int .u8 ((w.before:Nat):Int),vs w.Af w.fail w.qf] 31,box b4 [.int .u8 ((a1:Nat):Int), .int .u8 ((a2:Nat):Int), .int .u8 ((a3:Nat):Int)] 27,box b3 (cL p []) 25,tabC,ros encI w.Av w.vars,ros encEn w.At w.tabs,ros encEn w.Ad w.disk,ros encI w.Aa w.args,ros encY w.Af w.fail] rfl ?_
 obtain⟨U,hU⟩:∃z0,z0=(pU F c (vi+1) s):=⟨_,rfl⟩
 rw[←hU]
 refine Jas [box b7 (cF F [nv oi, .string ((hdOr (fndV s none (c.vers.take (vi+1)))).name), .slice ((hdOr (fndV s none (c.vers.take (vi+1)))).Ap) ((hdOr (fndV s none (c.vers.take (vi+1)))).ps.length) ((hdOr (fndV s none (c.vers.take (vi+1)))).qp), .slice ((hdOr (fndV s none (c.vers.take (vi+1)))).Ab) ((hdOr (fndV s none (c.vers.take (vi+1)))).body.length) ((hdOr (fndV s none (c.vers.take (vi+1)))).qb),nv U.np, .int .i64 U.st,vs B U.l m,nv (nV c.vars),nv (nT c.vars),nv F.flags.length]) 45,all (F.kids eR),rows Ins.cells 116 4 B m U.l,box b5 [vs w.Av w.vars w.qv,vs w.At w.tabs w.qt,vs w.Ad w.disk w.qd,vs w.Aa w.args w.qa, .int .i64 w.now, .int .u8 ((w.flags:Nat):Int), .int .u8 ((w.before:Nat):Int),vs w.Af w.fail w.qf] 31,box b4 [.int .u8 ((a1:Nat):Int), .int .u8 ((a2:Nat):Int), .int .u8 ((a3:Nat):Int)] 27,box b3 (cL p []) 25,tabC,ros encI w.Av w.vars,ros encEn w.At w.tabs,ros encEn w.Ad w.disk,ros encI w.Aa w.args,ros encY w.Af w.fail] rfl ?_
 obtain⟨hd,hhd⟩:∃z0,z0=(hdOr (fndV s none (c.vers.take (vi+1)))):=⟨_,rfl⟩
 rw[←hhd]
 obtain⟨is,his⟩:∃z0,z0=(fndV s none (c.vers.take (vi+1))).isSome:=⟨_,rfl⟩
 rw[←his]
 refine To.g (Jvf (awake_fn) rfl (ocs (oca 6 rfl) (ocn _)) ?_)
 refine Jz 11 ?_
 refine Jcond rfl ?_ ?_<;>intro k37
 refine Js (To.g (Jvf (awake_fn) rfl (ocs (oca 6 rfl) (ocn _)) ?_))
 refine Jz 8 ?_
 refine Jdel11 (Jdel10 (Jdel9 (Jdel8 (Jdel7 (Jdel6 (Jdel5 (Jdel4 (Jdel3 (Jdel2 (Jdel1 (Jdel0 (Je1 results6 ?_))))))))))))
 rfl
 refine Jz 3 ?_
 have hsk:SkOk U:=by rw[hU];exact sk_ok hG hc ⟨by omega,by omega⟩ (by rw[←his];simpa using k37)
 have hskf:SkFit U (nV c.vars) (nT c.vars) F.flags.length:=by rw[hU];exact sk_fit hG hc ⟨by omega,by omega⟩ (by rw[←his];simpa using k37)
 obtain⟨hnv,hnt⟩:=nVT hG hc
 have hnf:=(goodX hG).flags
 have hnp:=hsk.np
 refine Jz 11 ?_
 refine Jcf [7,7,7,7,7] (make_fn w hw hwf (nV c.vars) (nT c.vars) U.np F.flags.length om om om om) ?_
 rintro _ _ ⟨a,b,Ff,qf,Fl,Ap,qp,P,Gp,qg,G,rfl,rfl,hva,hvb,hFl,hP,hG2,hcaps,hcapd⟩
 refine Jz 5 ?_
 refine Jal fun b10=>?_
 refine Jal fun b11=>?_
 refine Jal fun b12=>?_
 refine Jal fun b13=>?_
 refine Jz 7 ?_
 refine Jup4 (JlayRow (Jup5 (JlayRow (Jup12 (JlayRow (Jup13 (JlayRow (Jup14 (JlayRow (Jup17 (JlayRow ?_)))))))))))
 have hga:=stV_good hva om
 have hdsk:0≤((w.before:Nat):Int)∧((w.before:Nat):Int)≤1000000000:=by have:=hw.before;omega
 have hul:=hsk.len
 have hv1:=hga.1
 have hv2:=hga.2.1
 have hPl:P.length=U.np:=by rw[hP,pad_len]
 have hGl:G.length=F.flags.length:=by rw[hG2,flags_len]
 have href:∀x∈U.l,referB x a.vars.length a.tabs.length G.length=true:=by rw[hv1,hv2,hGl];exact hskf.fit
 refine Jz 2 ?_
 refine Jr (Rd.lS (i:=16) (us:=[nv U.np, .int .i64 U.st,vs B U.l m]) rfl rfl r43 rfl (box_gives (n:=3) rfl) rfl) ?_
 refine Jz 2 ?_
 refine Jcf [0,4,3,7,7,2,1,0,13] (runOk_fn ((U.np:Nat):Int) U.st B m U.l a (⟨Ap,qp,P,w.now,Gp,qg,G,((w.before:Nat):Int),Ff,qf,Fl⟩:Cl) hsk.ver om (by rw[hPl]) href ⟨by omega,by omega⟩ (by show Fl.length≤12;omega) hdsk hga.2.2.1 hga.2.2.2 hcaps hcapd) ?_
 rintro _ _ ⟨d,rfl,rfl,hrun,_⟩
 refine Jz 3 ?_
 refine Jal fun b14=>?_
 refine Jz 6 ?_
 refine Jup5 (JlayRow (Jup3 (JlayRow ?_)))
 have hb:FinB d.val:=by
  rw[hrun]
  refine run_bounds (s:=Cl.sm (⟨Ap,qp,P,w.now,Gp,qg,G,((w.before:Nat):Int),Ff,qf,Fl⟩:Cl) U.l) hsk.ver (fun x hx=>by rw[List.length_map];exact href x hx) (by show(P.length:Int)=_;rw[hPl]) (isortI_asc _) (by show(isort cmpI Fl).length≤1000000;rw[isort_len];omega) hdsk (fun t ht=>by obtain⟨y,hy,rfl⟩:=List.mem_map.1 ht;exact hga.2.2.1 y hy) hga.2.2.2 (by rw[List.length_map];omega) hskf.paid
 have hcost:0≤d.cost∧d.cost≤200:=hb.cost
 have hdk:((dkN (d.effs.map Ef.val):Nat):Int)≤d.cost:=hb.dk
 have hsd:sdN (d.effs.map Ef.val)≤8:=hb.sent
 have hel:d.effs.length≤1048577:=by have h0:(d.effs.map Ef.val).length≤1048577:=hb.len;rwa[List.length_map]at h0
 have htl:d.tabs.length≤1000:=by have h0:(d.tabs.map Tb.l).length≤1000:=hb.tl;rwa[List.length_map]at h0
 have hdd:d.dk.l.length≤16:=hb.disk
 refine Jz 8 ?_
 refine JgP ?_ ?_<;>intro g73
 exact absurd g73 om
 refine Jz 6 ?_
 refine Jcp rfl ?_ ?_<;>intro k77
 exact absurd k77 om
 refine Jz 17 ?_
 refine To.del19 (Jdel18 (Jdel17 (Jdel16 (Jdel15 (Jdel14 (Jdel13 (Jdel12 (Jdel11 (Jdel10 (Jdel9 (Jdel8 (Jdel7 (Jdel6 (Jdel5 (Jdel4 (Jdel3 (Jup1 (Jup2 (JloopS (fun mz ρ Γ=>∃(n:Nat) (i:Nat),ρ=[(14,pv b14),(16,nv n),(79,vs d.Ae d.effs d.qe),(80,nv d.effs.length),(81,nv i)]∧Γ=[box b14 [vs d.Av d.vars d.qv,vs d.At d.tabs d.qt,vs d.dk.A d.dk.l d.dk.q,vs d.Ae d.effs d.qe, .int .i64 d.cost] 70,ros Ef.cells d.Ae d.effs,ros Tb.cells d.At d.tabs]∧mz=d.effs.length-i∧(i≤d.effs.length)∧(n=sdN ((d.effs.take i).map Ef.val))) (d.effs.length-0) ⟨⟨0,0,rfl,rfl,rfl,(Nat.zero_le _),rfl⟩,sb⟩ ?_)))))))))))))))))))
 rintro mz _ _ ⟨n,i,rfl,rfl,rfl,hi,hn⟩
 have hni:n≤i:=by rw[hn];unfold sdN;refine Nat.le_trans (List.length_filter_le _ _) ?_;rw[List.length_map,List.length_take];omega
 refine Jz 6 ?_
 refine Jcp rfl ?_ ?_<;>intro k82
 obtain⟨x,hx⟩:=exg d.effs i om
 have hlast:x.k=5→i+1=d.effs.length:=fun h=>by
  have h0:=hb.last i x.val (by show(d.effs.map Ef.val)[i]?=_;rw[List.getElem?_map,hx];rfl) h
  have h1:d.val.effs.length=d.effs.length:=List.length_map ..
  omega
 refine Jz 9 ?_
 refine Jal fun b18=>?_
 refine Jz 10 ?_
 refine JgP ?_ ?_<;>intro g89
 refine Jz 18 ?_
 refine JgP ?_ ?_<;>intro g99
 refine Jz 4 ?_
 refine Jr (Rd.sub64 rfl rfl rfl om) ?_
 refine Jz 4 ?_
 refine Jcp rfl ?_ ?_<;>intro k106
 exact absurd (hlast om) om
 refine Jz 8 ?_
 refine Jdel0 (JagS (d.effs.length-(i+1)) om ⟨⟨n+1,i+1,rfl,rfl,rfl,om,(by rw[sdE_snoc hx,if_pos om,hn]<;>rfl)⟩,sb⟩)
 refine Jz 18 ?_
 refine Jdel0 (JagS (d.effs.length-(i+1)) om ⟨⟨n+1,i+1,rfl,rfl,rfl,om,(by rw[sdE_snoc hx,if_pos om,hn]<;>rfl)⟩,sb⟩)
 refine Jz 6 ?_
 refine Jcp rfl ?_ ?_<;>intro k93
 refine Jz 11 ?_
 refine JgP ?_ ?_<;>intro g99
 refine Jz 4 ?_
 refine Jr (Rd.sub64 rfl rfl rfl om) ?_
 refine Jz 4 ?_
 refine Jcp rfl ?_ ?_<;>intro k106
 exact absurd (hlast om) om
 refine Jz 8 ?_
 refine Jdel0 (JagS (d.effs.length-(i+1)) om ⟨⟨n+1,i+1,rfl,rfl,rfl,om,(by rw[sdE_snoc hx,if_pos om,hn]<;>rfl)⟩,sb⟩)
 refine Jz 18 ?_
 refine Jdel0 (JagS (d.effs.length-(i+1)) om ⟨⟨n+1,i+1,rfl,rfl,rfl,om,(by rw[sdE_snoc hx,if_pos om,hn]<;>rfl)⟩,sb⟩)
 refine Jz 7 ?_
 refine JgP ?_ ?_<;>intro g99
 refine Jz 4 ?_
 refine Jr (Rd.sub64 rfl rfl rfl om) ?_
 refine Jz 4 ?_
 refine Jcp rfl ?_ ?_<;>intro k106
 exact absurd (hlast om) om
 refine Jz 8 ?_
 refine Jdel0 (JagS (d.effs.length-(i+1)) om ⟨⟨n,i+1,rfl,rfl,rfl,om,(by rw[sdE_snoc hx,if_neg om,hn]<;>rfl)⟩,sb⟩)
 refine Jz 18 ?_
 refine Jdel0 (JagS (d.effs.length-(i+1)) om ⟨⟨n,i+1,rfl,rfl,rfl,om,(by rw[sdE_snoc hx,if_neg om,hn]<;>rfl)⟩,sb⟩)
 refine Jz 16 ?_
 refine JloopS (fun mz ρ Γ=>∃(j:Nat),ρ=[(14,pv b14),(16,nv n),(110,vs d.At d.tabs d.qt),(111,nv d.tabs.length),(112,nv j)]∧Γ=[box b14 [vs d.Av d.vars d.qv,vs d.At d.tabs d.qt,vs d.dk.A d.dk.l d.dk.q,vs d.Ae d.effs d.qe, .int .i64 d.cost] 70,ros Ef.cells d.Ae d.effs,ros Tb.cells d.At d.tabs]∧mz=d.tabs.length-j∧(j≤d.tabs.length)) (d.tabs.length-0) ⟨⟨0,rfl,rfl,rfl,(Nat.zero_le _)⟩,sb⟩ ?_
 rintro mz _ _ ⟨j,rfl,rfl,rfl,hj⟩
 refine Jz 6 ?_
 refine Jcp rfl ?_ ?_<;>intro k113
 obtain⟨y,hy⟩:=exg d.tabs j om
 have hyl:y.l.length≤16:=hb.tabs y.l (List.mem_map.2 ⟨y,mog hy,rfl⟩)
 refine Jz 8 ?_
 refine Jal fun b20=>?_
 refine Jz 6 ?_
 refine Jvf (tlen_fn y.A y.l.length y.q) rfl (ocn _) ?_
 refine Jz 3 ?_
 refine Jcp rfl ?_ ?_<;>intro k118
 exact absurd k118 om
 refine Jz 8 ?_
 refine Jdel0 (JagS (d.tabs.length-(j+1)) om ⟨⟨j+1,rfl,rfl,rfl,om⟩,sb⟩)
 refine Jz 6 ?_
 have hn8:n≤8:=by rw[hn,List.take_of_length_le om];exact hsd
 refine Jfw [box b14 [vs d.Av d.vars d.qv,vs d.At d.tabs d.qt,vs d.dk.A d.dk.l d.dk.q,vs d.Ae d.effs d.qe, .int .i64 d.cost] 70] [0,1,2,3,4,105,306,7,8,9,10,13,111,312,114,15,16,17] (ocs (oca 0 rfl) (ocn _)) ?_
 refine Jz 2 ?_
 refine Fw.rdP rfl rfl rfl rfl (Rd.move rfl rfl) (fun g122=>?_) (fun g122=>?_)
 refine Jz 2 ?_
 refine Fw.r rfl (Rd.lS (i:=0) (us:=[vs d.dk.A d.dk.l d.dk.q]) rfl rfl r54 rfl (box_gives (n:=1) rfl) rfl) ?_
 refine Fw.qf (tlen_fn d.dk.A d.dk.l.length d.dk.q) (ocn _) ?_
 refine Jz 2 ?_
 refine Fw.rdP rfl rfl rfl rfl (Rd.move rfl rfl) (fun g129=>?_) (fun g129=>?_)
 refine Jz 3 ?_
 refine Fw.qf (disks_fn d.Ae d.qe d.effs om) (ocs (oca 1 rfl) (ocn _)) ?_
 refine Jz 7 ?_
 refine Jdel2 (Jdel1 (Jdel0 (Je1 results6 ?_)))
 exact congrArg Value.bool (decide_eq_true hdk)
 exact absurd g129 om
 exact absurd g122 om
end Go.Proofs.YtlihklladkagpaaGreatDoor

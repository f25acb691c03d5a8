/- Merged out of Fm1, Fm2 by merge.py. Own text. -/
import Derived.Test.YtihgdnjkofpgiaaGreatDoorUj
set_option linter.unusedVariables false
set_option linter.unusedSimpArgs false
set_option maxHeartbeats 2000000
set_option maxRecDepth 100000
namespace Go.Proofs.YtihgdnjkofpgiaaGreatDoor
open Go.RowKit Go.Flow Go.Mem Go.Sep Go.In
theorem zfcomps_fn(fb:Nat)(X:FB)(G:List Chunk)(hG:Lax G):
    Does Tryz.prog 28 [pv fb] [all (flk fb X G)] (fun v Γ'=>v=nv X.F.comps.length∧Γ'=[]):=by
 refine Does.enter Tryz.func28 rfl Tryz.ntmps28 rfl (fun w0=>?_)
 refine To.z 7 ?_
 refine To.one 0 rfl (ro (some ⟨fb,0,none⟩) [.string X.F.name, .slice X.F.Af X.F.flags.length X.F.qf, .slice X.F.Al X.F.links.length X.F.ql, .slice X.F.Ac X.F.comps.length X.F.qc, .string X.src, .int .u8 ((X.id 0:Nat):Int), .int .u8 ((X.id 1:Nat):Int), .int .u8 ((X.id 2:Nat):Int), .int .u8 ((X.id 3:Nat):Int), .int .u8 ((X.id 4:Nat):Int), .int .u8 ((X.id 5:Nat):Int), .int .u8 ((X.id 6:Nat):Int), .int .u8 ((X.id 7:Nat):Int), .int .u8 ((X.id 8:Nat):Int), .int .u8 ((X.id 9:Nat):Int), .int .u8 ((X.id 10:Nat):Int), .int .u8 ((X.id 11:Nat):Int), .int .u8 ((X.id 12:Nat):Int), .int .u8 ((X.id 13:Nat):Int), .int .u8 ((X.id 14:Nat):Int), .int .u8 ((X.id 15:Nat):Int), .int .u8 ((X.id 16:Nat):Int), .int .u8 ((X.id 17:Nat):Int), .int .u8 ((X.id 18:Nat):Int), .int .u8 ((X.id 19:Nat):Int), .int .u8 ((X.id 20:Nat):Int), .int .u8 ((X.id 21:Nat):Int), .int .u8 ((X.id 22:Nat):Int), .int .u8 ((X.id 23:Nat):Int), .int .u8 ((X.id 24:Nat):Int), .int .u8 ((X.id 25:Nat):Int), .int .u8 ((X.id 26:Nat):Int), .int .u8 ((X.id 27:Nat):Int), .int .u8 ((X.id 28:Nat):Int), .int .u8 ((X.id 29:Nat):Int), .int .u8 ((X.id 30:Nat):Int), .int .u8 ((X.id 31:Nat):Int), .pointer (some ⟨X.pb,0,none⟩)]) rfl (flk_ro) ?_
 refine To.z 2 ?_
 refine To.r (Rd.eqlNil rfl Tryz.underlying27 rfl rfl) ?_
 refine To.z 11 ?_
 refine To.r (Rd.ld (i:=0) rfl rfl c72 rfl (ro_gives (A:=some ⟨fb,0,none⟩) (o:=3) (k:=1) rfl)) ?_
 refine To.z 5 ?_
 refine To.del1 (To.del0 (To.end1 (.inl rfl) Tryz.results28 rfl ?_))
 exact⟨rfl,rfl⟩
theorem zfcomps0_fn:
    Does Tryz.prog 28 [.pointer none] [] (fun v Γ'=>v= .int .i64 0∧Γ'=[]):=by
 refine Does.enter Tryz.func28 rfl Tryz.ntmps28 rfl (fun w0=>?_)
 refine To.z 9 ?_
 refine To.r (Rd.eqlNil rfl Tryz.underlying27 rfl rfl) ?_
 refine To.z 10 ?_
 refine To.end1 (.inl rfl) Tryz.results28 rfl ?_
 exact⟨rfl,rfl⟩
theorem zfflags0_fn:
    Does Tryz.prog 29 [.pointer none] [] (fun v Γ'=>v= .int .i64 0∧Γ'=[]):=by
 refine Does.enter Tryz.func29 rfl Tryz.ntmps29 rfl (fun w0=>?_)
 refine To.z 9 ?_
 refine To.r (Rd.eqlNil rfl Tryz.underlying27 rfl rfl) ?_
 refine To.z 10 ?_
 refine To.end1 (.inl rfl) Tryz.results29 rfl ?_
 exact⟨rfl,rfl⟩
theorem zfcompK_fn(fb:Nat)(X:FB)(G:List Chunk)(hG:Lax G)(k:Nat)(x:Cm)(hx:X.F.comps[k]?=some x):
    Does Tryz.prog 44 [pv fb,nv k] [all (flk fb X G)] (fun v Γ'=>v= .agg #[.string x.name, .slice x.Av x.vars.length x.qv, .slice x.An x.vers.length x.qn]∧Γ'=[]):=by
 have hkl:k<X.F.comps.length:=(List.getElem?_eq_some_iff.1 hx).1
 refine Does.enter Tryz.func44 rfl Tryz.ntmps44 rfl (fun w0=>?_)
 refine To.s (To.g ?_)
 refine To.al fun b4=>?_
 refine To.z 4 ?_
 refine To.one 1 rfl (ro (some ⟨fb,0,none⟩) [.string X.F.name, .slice X.F.Af X.F.flags.length X.F.qf, .slice X.F.Al X.F.links.length X.F.ql, .slice X.F.Ac X.F.comps.length X.F.qc, .string X.src, .int .u8 ((X.id 0:Nat):Int), .int .u8 ((X.id 1:Nat):Int), .int .u8 ((X.id 2:Nat):Int), .int .u8 ((X.id 3:Nat):Int), .int .u8 ((X.id 4:Nat):Int), .int .u8 ((X.id 5:Nat):Int), .int .u8 ((X.id 6:Nat):Int), .int .u8 ((X.id 7:Nat):Int), .int .u8 ((X.id 8:Nat):Int), .int .u8 ((X.id 9:Nat):Int), .int .u8 ((X.id 10:Nat):Int), .int .u8 ((X.id 11:Nat):Int), .int .u8 ((X.id 12:Nat):Int), .int .u8 ((X.id 13:Nat):Int), .int .u8 ((X.id 14:Nat):Int), .int .u8 ((X.id 15:Nat):Int), .int .u8 ((X.id 16:Nat):Int), .int .u8 ((X.id 17:Nat):Int), .int .u8 ((X.id 18:Nat):Int), .int .u8 ((X.id 19:Nat):Int), .int .u8 ((X.id 20:Nat):Int), .int .u8 ((X.id 21:Nat):Int), .int .u8 ((X.id 22:Nat):Int), .int .u8 ((X.id 23:Nat):Int), .int .u8 ((X.id 24:Nat):Int), .int .u8 ((X.id 25:Nat):Int), .int .u8 ((X.id 26:Nat):Int), .int .u8 ((X.id 27:Nat):Int), .int .u8 ((X.id 28:Nat):Int), .int .u8 ((X.id 29:Nat):Int), .int .u8 ((X.id 30:Nat):Int), .int .u8 ((X.id 31:Nat):Int), .pointer (some ⟨X.pb,0,none⟩)]) rfl (flk_ro) (To.one 2 rfl (ros encC X.F.Ac X.F.comps) rfl (flk_F _ (Fl.comps_k (k:=eX))) ?_)
 refine To.z 3 ?_
 refine To.rdP rfl rfl rfl (Rd.move rfl rfl) (fun g7=>?_) (fun g7=>?_)
 exact absurd g7 (by omega)
 refine To.z 2 ?_
 refine To.cQ rfl rfl rfl (Ent.fn rfl rfl ca28) (zfcomps_fn fb X G hG) (by show owns (flk fb X G)++[]=[];rw[(flk_lax hG).owns];rfl) (ocs (oca 3 rfl) (ocn _)) ?_
 rintro _ _ ⟨rfl,rfl⟩
 refine⟨rfl,?_⟩
 refine To.z 4 ?_
 refine To.cp rfl (fun c12=>?_) (fun c12=>?_)
 exact absurd c12 (by omega)
 refine To.z 8 ?_
 refine To.r (Rd.ld (i:=1) rfl rfl c72 rfl (ro_gives (A:=some ⟨fb,0,none⟩) (o:=3) (k:=1) rfl)) ?_
 refine To.z 7 ?_
 refine To.endC [] rfl (.inl rfl) Tryz.results44 rfl (i:=2) rfl r107 rfl ?_
 exact⟨rfl,rfl⟩
theorem zfcompX_fn(fb:Nat)(X:FB)(G:List Chunk)(hG:Lax G)(c:Int)(hc:c<0∨(X.F.comps.length:Int)≤c):
    Does Tryz.prog 44 [pv fb, .int .i64 c] [all (flk fb X G)] (fun v Γ'=>v= .agg #[.string nE, .slice none 0 0, .slice none 0 0]∧Γ'=[]):=by
 refine Does.enter Tryz.func44 rfl Tryz.ntmps44 rfl (fun w0=>?_)
 refine To.s (To.g ?_)
 refine To.al fun b4=>?_
 refine To.z 7 ?_
 refine To.rdP rfl rfl rfl (Rd.move rfl rfl) (fun g7=>?_) (fun g7=>?_)
 refine To.z 10 ?_
 refine To.r (Rd.build (vs:=[]) (cells:=[.string bE, .slice none 0 0, .slice none 0 0]) rfl rfl rfl (by kernel_rfl)) ?_
 refine To.z 5 ?_
 refine To.endC [] rfl (.inl rfl) Tryz.results44 rfl (i:=0) rfl r107 rfl ?_
 exact⟨rfl,rfl⟩
 refine To.z 2 ?_
 refine To.cQ rfl rfl rfl (Ent.fn rfl rfl ca28) (zfcomps_fn fb X G hG) (by show owns (flk fb X G)++[]=[];rw[(flk_lax hG).owns];rfl) (ocs (oca 1 rfl) (ocn _)) ?_
 rintro _ _ ⟨rfl,rfl⟩
 refine⟨rfl,?_⟩
 refine To.z 4 ?_
 refine To.cp rfl (fun c12=>?_) (fun c12=>?_)
 refine To.s (To.g (To.r (Rd.build (vs:=[]) (cells:=[.string bE, .slice none 0 0, .slice none 0 0]) rfl rfl rfl (by kernel_rfl)) ?_))
 refine To.z 5 ?_
 refine To.endC [] rfl (.inl rfl) Tryz.results44 rfl (i:=0) rfl r107 rfl ?_
 exact⟨rfl,rfl⟩
 exact absurd hc (by omega)
theorem zfcomp0_fn(c:Int):
    Does Tryz.prog 44 [.pointer none, .int .i64 c] [] (fun v Γ'=>v= .agg #[.string nE, .slice none 0 0, .slice none 0 0]∧Γ'=[]):=by
 refine Does.enter Tryz.func44 rfl Tryz.ntmps44 rfl (fun w0=>?_)
 refine To.s (To.g ?_)
 refine To.al fun b4=>?_
 refine To.z 7 ?_
 refine To.rdP rfl rfl rfl (Rd.move rfl rfl) (fun g7=>?_) (fun g7=>?_)
 refine To.z 10 ?_
 refine To.r (Rd.build (vs:=[]) (cells:=[.string bE, .slice none 0 0, .slice none 0 0]) rfl rfl rfl (by kernel_rfl)) ?_
 refine To.z 5 ?_
 refine To.endC [] rfl (.inl rfl) Tryz.results44 rfl (i:=0) rfl r107 rfl ?_
 exact⟨rfl,rfl⟩
 refine To.z 2 ?_
 refine To.cQ rfl rfl rfl (Ent.fn rfl rfl ca28) (zfcomps0_fn) rfl (ocn _) ?_
 rintro _ _ ⟨rfl,rfl⟩
 refine⟨rfl,?_⟩
 refine To.z 4 ?_
 refine To.cp rfl (fun c12=>?_) (fun c12=>?_)
 refine To.s (To.g (To.r (Rd.build (vs:=[]) (cells:=[.string bE, .slice none 0 0, .slice none 0 0]) rfl rfl rfl (by kernel_rfl)) ?_))
 refine To.z 5 ?_
 refine To.endC [] rfl (.inl rfl) Tryz.results44 rfl (i:=0) rfl r107 rfl ?_
 exact⟨rfl,rfl⟩
 exact absurd c12 (by omega)
theorem zfflag0_fn(c:Int):
    Does Tryz.prog 66 [.pointer none, .int .i64 c] [] (fun v Γ'=>v= .agg #[.string nE, .bool false]∧Γ'=[]):=by
 refine Does.enter Tryz.func66 rfl Tryz.ntmps66 rfl (fun w0=>?_)
 refine To.s (To.g ?_)
 refine To.al fun b4=>?_
 refine To.z 7 ?_
 refine To.rdP rfl rfl rfl (Rd.move rfl rfl) (fun g7=>?_) (fun g7=>?_)
 refine To.z 10 ?_
 refine To.r (Rd.build (vs:=[]) (cells:=[.string bE, .bool false]) rfl rfl rfl (by kernel_rfl)) ?_
 refine To.z 5 ?_
 refine To.endC [] rfl (.inl rfl) Tryz.results66 rfl (i:=0) rfl r169 rfl ?_
 exact⟨rfl,rfl⟩
 refine To.z 2 ?_
 refine To.cQ rfl rfl rfl (Ent.fn rfl rfl ca29) (zfflags0_fn) rfl (ocn _) ?_
 rintro _ _ ⟨rfl,rfl⟩
 refine⟨rfl,?_⟩
 refine To.z 4 ?_
 refine To.cp rfl (fun c12=>?_) (fun c12=>?_)
 refine To.s (To.g (To.r (Rd.build (vs:=[]) (cells:=[.string bE, .bool false]) rfl rfl rfl (by kernel_rfl)) ?_))
 refine To.z 5 ?_
 refine To.endC [] rfl (.inl rfl) Tryz.results66 rfl (i:=0) rfl r169 rfl ?_
 exact⟨rfl,rfl⟩
 exact absurd c12 (by omega)
theorem zfcomp_fn(fb:Nat)(X:FB)(G:List Chunk)(hG:Lax G)(c:Int):Does Tryz.prog 44 [pv fb, .int .i64 c] [all (flk fb X G)] (fun v Γ'=>v= .agg #[.string (cmI X.F c).name, .slice (cmI X.F c).Av (cmI X.F c).vars.length (cmI X.F c).qv, .slice (cmI X.F c).An (cmI X.F c).vers.length (cmI X.F c).qn]∧Γ'=[]):=by
 rcases atI_cases X.F.comps c with h|⟨k,x,rfl,h⟩
 ·rw[cmI_none h];exact zfcompX_fn fb X G hG c h
 ·rw[cmI_at h];exact zfcompK_fn fb X G hG k x h
theorem zfname_fn(fb:Nat)(X:FB)(G:List Chunk)(hG:Lax G)(c:Int):
    Does Tryz.prog 34 [pv fb, .int .i64 c] [all (flk fb X G)] (fun v Γ'=>v= .string ((cmI X.F c).name)∧Γ'=[]):=by
 refine Does.enter Tryz.func34 rfl Tryz.ntmps34 rfl (fun w0=>?_)
 refine To.z 9 ?_
 refine To.cQ rfl rfl rfl (Ent.fn rfl rfl ca44) (zfcomp_fn fb X G hG c) (by show owns (flk fb X G)++[]=[];rw[(flk_lax hG).owns];rfl) (ocs (oca 0 rfl) (ocn _)) ?_
 rintro _ _ ⟨rfl,rfl⟩
 refine⟨rfl,?_⟩
 refine To.r (Rd.fieldV (vs:=[.string ((cmI X.F c).name), .slice ((cmI X.F c).Av) ((cmI X.F c).vars.length) ((cmI X.F c).qv), .slice ((cmI X.F c).An) ((cmI X.F c).vers.length) ((cmI X.F c).qn)]) rfl Tryz.underlying107 rfl Tryz.underlying9 rfl rfl rfl) ?_
 refine To.z 4 ?_
 refine To.del0 (To.end1 (.inl rfl) Tryz.results34 rfl ?_)
 exact⟨rfl,rfl⟩
theorem zfname0_fn(c:Int):
    Does Tryz.prog 34 [.pointer none, .int .i64 c] [] (fun v Γ'=>v= .string nE∧Γ'=[]):=by
 refine Does.enter Tryz.func34 rfl Tryz.ntmps34 rfl (fun w0=>?_)
 refine To.z 9 ?_
 refine To.cQ rfl rfl rfl (Ent.fn rfl rfl ca44) (zfcomp0_fn c) rfl (ocn _) ?_
 rintro _ _ ⟨rfl,rfl⟩
 refine⟨rfl,?_⟩
 refine To.r (Rd.fieldV (vs:=[.string nE, .slice none 0 0, .slice none 0 0]) rfl Tryz.underlying107 rfl Tryz.underlying9 rfl rfl rfl) ?_
 refine To.z 4 ?_
 refine To.end1 (.inl rfl) Tryz.results34 rfl ?_
 exact⟨rfl,rfl⟩
theorem zfvers0_fn(c:Int):
    Does Tryz.prog 35 [.pointer none, .int .i64 c] [] (fun v Γ'=>v= .int .i64 0∧Γ'=[]):=by
 refine Does.enter Tryz.func35 rfl Tryz.ntmps35 rfl (fun w0=>?_)
 refine To.z 9 ?_
 refine To.cQ rfl rfl rfl (Ent.fn rfl rfl ca44) (zfcomp0_fn c) rfl (ocn _) ?_
 rintro _ _ ⟨rfl,rfl⟩
 refine⟨rfl,?_⟩
 refine To.r (Rd.fieldV (vs:=[.string nE, .slice none 0 0, .slice none 0 0]) rfl Tryz.underlying107 rfl Tryz.underlying105 rfl rfl rfl) ?_
 refine To.z 5 ?_
 refine To.end1 (.inl rfl) Tryz.results35 rfl ?_
 exact⟨rfl,rfl⟩
theorem zfflagi0_fn(c:Int):
    Does Tryz.prog 32 [.pointer none, .int .i64 c] [] (fun v Γ'=>v= .bool false∧Γ'=[]):=by
 refine Does.enter Tryz.func32 rfl Tryz.ntmps32 rfl (fun w0=>?_)
 refine To.z 9 ?_
 refine To.cQ rfl rfl rfl (Ent.fn rfl rfl ca66) (zfflag0_fn c) rfl (ocn _) ?_
 rintro _ _ ⟨rfl,rfl⟩
 refine⟨rfl,?_⟩
 refine To.r (Rd.fieldV (vs:=[.string nE, .bool false]) rfl Tryz.underlying169 rfl Tryz.underlying4 rfl rfl rfl) ?_
 refine To.z 4 ?_
 refine To.end1 (.inl rfl) Tryz.results32 rfl ?_
 exact⟨rfl,rfl⟩
theorem zphandK_fn(fb:Nat)(X:FB)(G:List Chunk)(A:Option Addr)(q:Nat)(ps:List PP)(hP:PgX X G A q ps)(k:Nat)(p:PP)(hp:ps[k]?=some p):
    Does Tryz.prog 45 [.pointer (some ⟨X.pb,0,none⟩),nv k] [all (flk fb X G)] (fun v Γ'=>∃(B:Option Addr) (r:Nat),v= .slice B p.names.length r∧Γ'=[rows encZ 9 1 B r p.names]):=by
 have hkp:k<ps.length:=(List.getElem?_eq_some_iff.1 hp).1
 have hnl:=hP.nms p (mog hp)
 refine Does.enter Tryz.func45 rfl Tryz.ntmps45 rfl (fun w0=>?_)
 refine To.z 7 ?_
 refine To.one 0 rfl (ro (some ⟨X.pb,0,none⟩) [.slice A ps.length q]) rfl (flk_G _ hP.pg.box) (To.one 1 rfl (ros encPP A ps) rfl (flk_G _ hP.pg.row) ?_)
 refine To.z 2 ?_
 refine To.r (Rd.eqlNil rfl Tryz.underlying66 rfl rfl) ?_
 refine To.z 4 ?_
 refine To.rdP rfl rfl rfl (Rd.move rfl rfl) (fun g11=>?_) (fun g11=>?_)
 exact absurd g11 (by omega)
 refine To.z 4 ?_
 refine To.r (Rd.ld (i:=1) rfl rfl c133 rfl (ro_gives (A:=some ⟨X.pb,0,none⟩) (o:=0) (k:=1) rfl)) ?_
 refine To.z 5 ?_
 refine To.cp rfl (fun k19=>?_) (fun k19=>?_)
 exact absurd k19 (by omega)
 refine To.z 3 ?_
 refine To.one 2 rfl (ros encZ p.An p.names) rfl (flk_G _ (hP.pg.nm p (mog hp))) ?_
 refine To.z 4 ?_
 refine To.r (Rd.ld (i:=2) rfl rfl c133 rfl (ro_gives (A:=some ⟨X.pb,0,none⟩) (o:=0) (k:=1) rfl)) ?_
 refine To.z 4 ?_
 refine To.cQ rfl rfl rfl (Ent.fn rfl rfl ca78) (cloneZ_fn p.An p.qn p.names (by omega)) rfl (ocs (oca 0 rfl) (ocn _)) ?_
 rintro _ _ ⟨Bn,pn,rfl,rfl⟩
 refine⟨rfl,?_⟩
 refine To.z 4 ?_
 refine To.del4 (To.del3 (To.del2 (To.del1 (To.end1 (.inl rfl) Tryz.results45 rfl ?_))))
 exact⟨_,_,rfl,rfl⟩
theorem zphandX_fn(fb:Nat)(X:FB)(G:List Chunk)(A:Option Addr)(q:Nat)(ps:List PP)(hP:PgX X G A q ps)(c:Int)(hc:c<0∨(ps.length:Int)≤c):
    Does Tryz.prog 45 [.pointer (some ⟨X.pb,0,none⟩), .int .i64 c] [all (flk fb X G)] (fun v Γ'=>v= .slice none 0 0∧Γ'=[]):=by
 refine Does.enter Tryz.func45 rfl Tryz.ntmps45 rfl (fun w0=>?_)
 refine To.z 7 ?_
 refine To.one 0 rfl (ro (some ⟨X.pb,0,none⟩) [.slice A ps.length q]) rfl (flk_G _ hP.pg.box) ?_
 refine To.z 2 ?_
 refine To.r (Rd.eqlNil rfl Tryz.underlying66 rfl rfl) ?_
 refine To.z 4 ?_
 refine To.rdP rfl rfl rfl (Rd.move rfl rfl) (fun g11=>?_) (fun g11=>?_)
 refine To.z 18 ?_
 refine To.del1 (To.del0 (To.end1 (.inl rfl) Tryz.results45 rfl ?_))
 exact⟨rfl,rfl⟩
 refine To.z 4 ?_
 refine To.r (Rd.ld (i:=0) rfl rfl c133 rfl (ro_gives (A:=some ⟨X.pb,0,none⟩) (o:=0) (k:=1) rfl)) ?_
 refine To.z 5 ?_
 refine To.cp rfl (fun c19=>?_) (fun c19=>?_)
 refine To.z 7 ?_
 refine To.del1 (To.del0 (To.end1 (.inl rfl) Tryz.results45 rfl ?_))
 exact⟨rfl,rfl⟩
 exact absurd hc (by omega)
theorem zphand_fn(fb:Nat)(X:FB)(G:List Chunk)(A:Option Addr)(q:Nat)(ps:List PP)(hP:PgX X G A q ps)(c:Int):Does Tryz.prog 45 [.pointer (some ⟨X.pb,0,none⟩), .int .i64 c] [all (flk fb X G)] (fun v Γ'=>∃(B:Option Addr) (r:Nat),v= .slice B (hnI ps c).length r∧Γ'=[rows encZ 9 1 B r (hnI ps c)]):=by
 rcases atI_cases ps c with h|⟨k,p,rfl,h⟩
 ·rw[hnI_none h];exact(Does.nilR (zphandX_fn fb X G A q ps hP c h)).mono fun v Γ' ⟨h1,h2⟩=>⟨none,0,h1,h2⟩
 ·rw[hnI_at h];exact zphandK_fn fb X G A q ps hP k p h
theorem zfhand_fn(fb:Nat)(X:FB)(G:List Chunk)(A:Option Addr)(q:Nat)(ps:List PP)(hP:PgX X G A q ps)(c:Int):
    Does Tryz.prog 15 [pv fb, .int .i64 c] [all (flk fb X G)] (fun v Γ'=>∃(B:Option Addr) (r:Nat),v= .slice B (hnI ps c).length r∧Γ'=[rows encZ 9 1 B r (hnI ps c)]):=by
 refine Does.enter Tryz.func15 rfl Tryz.ntmps15 rfl (fun w0=>?_)
 refine To.z 9 ?_
 refine To.r (Rd.eqlNil rfl Tryz.underlying27 rfl rfl) ?_
 refine To.z 6 ?_
 refine To.one 0 rfl (ro (some ⟨fb,0,none⟩) [.string X.F.name, .slice X.F.Af X.F.flags.length X.F.qf, .slice X.F.Al X.F.links.length X.F.ql, .slice X.F.Ac X.F.comps.length X.F.qc, .string X.src, .int .u8 ((X.id 0:Nat):Int), .int .u8 ((X.id 1:Nat):Int), .int .u8 ((X.id 2:Nat):Int), .int .u8 ((X.id 3:Nat):Int), .int .u8 ((X.id 4:Nat):Int), .int .u8 ((X.id 5:Nat):Int), .int .u8 ((X.id 6:Nat):Int), .int .u8 ((X.id 7:Nat):Int), .int .u8 ((X.id 8:Nat):Int), .int .u8 ((X.id 9:Nat):Int), .int .u8 ((X.id 10:Nat):Int), .int .u8 ((X.id 11:Nat):Int), .int .u8 ((X.id 12:Nat):Int), .int .u8 ((X.id 13:Nat):Int), .int .u8 ((X.id 14:Nat):Int), .int .u8 ((X.id 15:Nat):Int), .int .u8 ((X.id 16:Nat):Int), .int .u8 ((X.id 17:Nat):Int), .int .u8 ((X.id 18:Nat):Int), .int .u8 ((X.id 19:Nat):Int), .int .u8 ((X.id 20:Nat):Int), .int .u8 ((X.id 21:Nat):Int), .int .u8 ((X.id 22:Nat):Int), .int .u8 ((X.id 23:Nat):Int), .int .u8 ((X.id 24:Nat):Int), .int .u8 ((X.id 25:Nat):Int), .int .u8 ((X.id 26:Nat):Int), .int .u8 ((X.id 27:Nat):Int), .int .u8 ((X.id 28:Nat):Int), .int .u8 ((X.id 29:Nat):Int), .int .u8 ((X.id 30:Nat):Int), .int .u8 ((X.id 31:Nat):Int), .pointer (some ⟨X.pb,0,none⟩)]) rfl (flk_ro) ?_
 refine To.z 4 ?_
 refine To.r (Rd.ld (i:=0) rfl rfl c66 rfl (ro_gives (A:=some ⟨fb,0,none⟩) (o:=37) (k:=1) rfl)) ?_
 refine To.m ?_
 refine To.cQ rfl rfl rfl (Ent.fn rfl rfl ca45) (zphand_fn fb X G A q ps hP c) (by show owns (flk fb X G)++[]=[];rw[(flk_lax hP.pg.lax).owns];rfl) (ocs (oca 1 rfl) (ocn _)) ?_
 rintro _ _ ⟨Bn,pn,rfl,rfl⟩
 refine⟨rfl,?_⟩
 refine To.z 4 ?_
 refine To.del2 (To.del1 (To.end1 (.inl rfl) Tryz.results15 rfl ?_))
 exact⟨_,_,rfl,rfl⟩
theorem zfhand0_fn(c:Int):
    Does Tryz.prog 15 [.pointer none, .int .i64 c] [] (fun v Γ'=>v= .slice none 0 0∧Γ'=[]):=by
 refine Does.enter Tryz.func15 rfl Tryz.ntmps15 rfl (fun w0=>?_)
 refine To.z 9 ?_
 refine To.r (Rd.eqlNil rfl Tryz.underlying27 rfl rfl) ?_
 refine To.z 10 ?_
 refine To.end1 (.inl rfl) Tryz.results15 rfl ?_
 exact⟨rfl,rfl⟩
end Go.Proofs.YtihgdnjkofpgiaaGreatDoor

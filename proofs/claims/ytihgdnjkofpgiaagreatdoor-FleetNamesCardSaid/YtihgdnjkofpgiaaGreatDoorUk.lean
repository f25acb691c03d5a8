/- Own text. -/
import Derived.Test.YtihgdnjkofpgiaaGreatDoorUj
set_option linter.unusedVariables false
set_option linter.unusedSimpArgs false
set_option maxHeartbeats 2000000
set_option maxRecDepth 100000
namespace Go.Proofs.YtihgdnjkofpgiaaGreatDoor
open Go.Proofs.Tryz
open Go.RowKit Go.Flow Go.Mem Go.Sep Go.In
theorem Wp(fb:Nat)(X:FB)(G:List Ad)(hG:Lax G):
    Dz 28 [pv fb] [all (flk fb X G)] (fun v Γ'=>v=nv X.F.comps.length∧Γ'=[]):=by
 refine Ba func28 ntmps28 fun w0=>?_;refine Jz 7 ?_;refine bz 0 rfl (ro (some ⟨fb,0,none⟩) [.string X.F.name,vs X.F.Af X.F.flags X.F.qf,vs X.F.Al X.F.links X.F.ql,vs X.F.Ac X.F.comps X.F.qc, .string X.src,ub (X.id 0),ub (X.id 1),ub (X.id 2),ub (X.id 3),ub (X.id 4),ub (X.id 5),ub (X.id 6),ub (X.id 7),ub (X.id 8),ub (X.id 9),ub (X.id 10),ub (X.id 11),ub (X.id 12),ub (X.id 13),ub (X.id 14),ub (X.id 15),ub (X.id 16),ub (X.id 17),ub (X.id 18),ub (X.id 19),ub (X.id 20),ub (X.id 21),ub (X.id 22),ub (X.id 23),ub (X.id 24),ub (X.id 25),ub (X.id 26),ub (X.id 27),ub (X.id 28),ub (X.id 29),ub (X.id 30),ub (X.id 31), .pointer (some ⟨X.pb,0,none⟩)]) rfl (gU) (Jz 2 ?_);refine Jr (Fh rfl underlying27 rfl rfl) ?_;refine Jz 11 ?_;refine Jr (Cu (i:=0) rfl rfl c72 rfl (Eb (A:=some ⟨fb,0,none⟩) (o:=3) (k:=1) rfl)) ?_;refine Jz 5 ?_;refine Cr (Cq (bv results28 ?_));exact⟨rfl,rfl⟩
theorem Bt(fb:Nat)(X:FB)(G:List Ad)(hG:Lax G):
    Dz 29 [pv fb] [all (flk fb X G)] (fun v Γ'=>v=nv X.F.flags.length∧Γ'=[]):=by
 refine Ba func29 ntmps29 fun w0=>?_;refine Jz 7 ?_;refine bz 0 rfl (ro (some ⟨fb,0,none⟩) [.string X.F.name,vs X.F.Af X.F.flags X.F.qf,vs X.F.Al X.F.links X.F.ql,vs X.F.Ac X.F.comps X.F.qc, .string X.src,ub (X.id 0),ub (X.id 1),ub (X.id 2),ub (X.id 3),ub (X.id 4),ub (X.id 5),ub (X.id 6),ub (X.id 7),ub (X.id 8),ub (X.id 9),ub (X.id 10),ub (X.id 11),ub (X.id 12),ub (X.id 13),ub (X.id 14),ub (X.id 15),ub (X.id 16),ub (X.id 17),ub (X.id 18),ub (X.id 19),ub (X.id 20),ub (X.id 21),ub (X.id 22),ub (X.id 23),ub (X.id 24),ub (X.id 25),ub (X.id 26),ub (X.id 27),ub (X.id 28),ub (X.id 29),ub (X.id 30),ub (X.id 31), .pointer (some ⟨X.pb,0,none⟩)]) rfl (gU) (Jz 2 ?_);refine Jr (Fh rfl underlying27 rfl rfl) ?_;refine Jz 11 ?_;refine Jr (Cu (i:=0) rfl rfl c70 rfl (Eb (A:=some ⟨fb,0,none⟩) (o:=1) (k:=1) rfl)) ?_;refine Jz 5 ?_;refine Cr (Cq (bv results29 ?_));exact⟨rfl,rfl⟩
theorem Wq(fb:Nat)(X:FB)(G:List Ad)(hG:Lax G)(k:Nat)(x:Cm)(hx:X.F.comps[k]?=some x):
    Dz 44 [pv fb,nv k] [all (flk fb X G)] (fun v Γ'=>v= .agg (cX x []).toArray∧Γ'=[]):=by
 have hkl:k<X.F.comps.length:=(aOz.1 hx).1;refine Ba func44 ntmps44 fun w0=>?_;refine Js (dh (ay fun b4=>?_));refine Jz 4 ?_;refine bz 1 rfl (ro (some ⟨fb,0,none⟩) [.string X.F.name,vs X.F.Af X.F.flags X.F.qf,vs X.F.Al X.F.links X.F.ql,vs X.F.Ac X.F.comps X.F.qc, .string X.src,ub (X.id 0),ub (X.id 1),ub (X.id 2),ub (X.id 3),ub (X.id 4),ub (X.id 5),ub (X.id 6),ub (X.id 7),ub (X.id 8),ub (X.id 9),ub (X.id 10),ub (X.id 11),ub (X.id 12),ub (X.id 13),ub (X.id 14),ub (X.id 15),ub (X.id 16),ub (X.id 17),ub (X.id 18),ub (X.id 19),ub (X.id 20),ub (X.id 21),ub (X.id 22),ub (X.id 23),ub (X.id 24),ub (X.id 25),ub (X.id 26),ub (X.id 27),ub (X.id 28),ub (X.id 29),ub (X.id 30),ub (X.id 31), .pointer (some ⟨X.pb,0,none⟩)]) rfl (gU) (bz 2 rfl (ros Gm X.F.Ac X.F.comps) rfl (pM _ (En (k:=eX))) (Jz 3 ?_));refine JgP ?_ ?_<;>intro g7;exact aPu g7 om;refine Jz 2 ?_;refine Jqf (Wp fb X G hG) (by show owns (flk fb X G)++[]=[];rw[(Gf hG).owns];rfl) (ag (au 3 rfl) (af _)) ?_;rintro _ _ ⟨rfl,rfl⟩;refine⟨rfl,?_⟩;refine Jz 4 ?_;refine ax rfl ?_ ?_<;>intro c12;exact aPu c12 om;refine Jz 8 ?_;refine Jr (Cu (i:=1) rfl rfl c72 rfl (Eb (A:=some ⟨fb,0,none⟩) (o:=3) (k:=1) rfl)) ?_;refine Jz 7 ?_;refine Ee [] results44 ?_;exact⟨rfl,rfl⟩
theorem IE(fb:Nat)(X:FB)(G:List Ad)(hG:Lax G)(c:Int)(hc:c<0∨(X.F.comps.length:Int)≤c):
    Dz 44 [pv fb,iv c] [all (flk fb X G)] (fun v Γ'=>v= .agg #[.string nE,nz,nz]∧Γ'=[]):=by
 refine Ba func44 ntmps44 fun w0=>?_;refine Js (dh (ay fun b4=>?_));refine Jz 7 ?_;refine JgP ?_ ?_<;>intro g7;refine Jz 10 ?_;refine Jr (.bd [.string bE,nz,nz]) ?_;refine Jz 5 ?_;refine Ee [] results44 ?_;exact⟨rfl,rfl⟩;refine Jz 2 ?_;refine Jqf (Wp fb X G hG) (by show owns (flk fb X G)++[]=[];rw[(Gf hG).owns];rfl) (ag (au 1 rfl) (af _)) ?_;rintro _ _ ⟨rfl,rfl⟩;refine⟨rfl,?_⟩;refine Jz 4 ?_;refine ax rfl ?_ ?_<;>intro c12;refine Js (dh (Jr (.bd [.string bE,nz,nz]) ?_));refine Jz 5 ?_;refine Ee [] results44 ?_;exact⟨rfl,rfl⟩;exact aPu hc om
theorem aSu(fb:Nat)(X:FB)(G:List Ad)(hG:Lax G)(k:Nat)(x:Fg)(hx:X.F.flags[k]?=some x):
    Dz 66 [pv fb,nv k] [all (flk fb X G)] (fun v Γ'=>v= .agg #[.string x.name, .bool x.init]∧Γ'=[]):=by
 have hkl:k<X.F.flags.length:=(aOz.1 hx).1;refine Ba func66 ntmps66 fun w0=>?_;refine Js (dh (ay fun b4=>?_));refine Jz 4 ?_;refine bz 1 rfl (ro (some ⟨fb,0,none⟩) [.string X.F.name,vs X.F.Af X.F.flags X.F.qf,vs X.F.Al X.F.links X.F.ql,vs X.F.Ac X.F.comps X.F.qc, .string X.src,ub (X.id 0),ub (X.id 1),ub (X.id 2),ub (X.id 3),ub (X.id 4),ub (X.id 5),ub (X.id 6),ub (X.id 7),ub (X.id 8),ub (X.id 9),ub (X.id 10),ub (X.id 11),ub (X.id 12),ub (X.id 13),ub (X.id 14),ub (X.id 15),ub (X.id 16),ub (X.id 17),ub (X.id 18),ub (X.id 19),ub (X.id 20),ub (X.id 21),ub (X.id 22),ub (X.id 23),ub (X.id 24),ub (X.id 25),ub (X.id 26),ub (X.id 27),ub (X.id 28),ub (X.id 29),ub (X.id 30),ub (X.id 31), .pointer (some ⟨X.pb,0,none⟩)]) rfl (gU) (bz 2 rfl (ros Gh X.F.Af X.F.flags) rfl (pM _ (Nh (k:=eX))) (Jz 3 ?_));refine JgP ?_ ?_<;>intro g7;exact aPu g7 om;refine Jz 2 ?_;refine Jqf (Bt fb X G hG) (by show owns (flk fb X G)++[]=[];rw[(Gf hG).owns];rfl) (ag (au 3 rfl) (af _)) ?_;rintro _ _ ⟨rfl,rfl⟩;refine⟨rfl,?_⟩;refine Jz 4 ?_;refine ax rfl ?_ ?_<;>intro c12;exact aPu c12 om;refine Jz 8 ?_;refine Jr (Cu (i:=1) rfl rfl c70 rfl (Eb (A:=some ⟨fb,0,none⟩) (o:=1) (k:=1) rfl)) ?_;refine Jz 7 ?_;refine Ee [] results66 ?_;exact⟨rfl,rfl⟩
theorem aSv(fb:Nat)(X:FB)(G:List Ad)(hG:Lax G)(c:Int)(hc:c<0∨(X.F.flags.length:Int)≤c):
    Dz 66 [pv fb,iv c] [all (flk fb X G)] (fun v Γ'=>v= .agg #[.string nE,bf]∧Γ'=[]):=by
 refine Ba func66 ntmps66 fun w0=>?_;refine Js (dh (ay fun b4=>?_));refine Jz 7 ?_;refine JgP ?_ ?_<;>intro g7;refine Jz 10 ?_;refine Jr (.bd [.string bE,bf]) ?_;refine Jz 5 ?_;refine Ee [] results66 ?_;exact⟨rfl,rfl⟩;refine Jz 2 ?_;refine Jqf (Bt fb X G hG) (by show owns (flk fb X G)++[]=[];rw[(Gf hG).owns];rfl) (ag (au 1 rfl) (af _)) ?_;rintro _ _ ⟨rfl,rfl⟩;refine⟨rfl,?_⟩;refine Jz 4 ?_;refine ax rfl ?_ ?_<;>intro c12;refine Js (dh (Jr (.bd [.string bE,bf]) ?_));refine Jz 5 ?_;refine Ee [] results66 ?_;exact⟨rfl,rfl⟩;exact aPu hc om
theorem gV(fb:Nat)(X:FB)(G:List Ad)(hG:Lax G)(c:Int):Dz 44 [pv fb,iv c] [all (flk fb X G)] (fun v Γ'=>v= .agg #[.string (cmI X.F c).name, .slice (cmI X.F c).Av (cmI X.F c).vars.length (cmI X.F c).qv, .slice (cmI X.F c).An (cmI X.F c).vers.length (cmI X.F c).qn]∧Γ'=[]):=by
 rcases Lv X.F.comps c with h|⟨k,x,rfl,h⟩
 ·rw[Yx h];exact IE fb X G hG c h
 ·rw[Sy h];exact Wq fb X G hG k x h
theorem aSi(fb:Nat)(X:FB)(G:List Ad)(hG:Lax G)(c:Int):Dz 66 [pv fb,iv c] [all (flk fb X G)] (fun v Γ'=>v= .agg #[.string (fgI X.F c).name, .bool (fgI X.F c).init]∧Γ'=[]):=by
 rcases Lv X.F.flags c with h|⟨k,x,rfl,h⟩
 ·rw[Ai h];exact aSv fb X G hG c h
 ·rw[aSl h];exact aSu fb X G hG k x h
theorem tO(fb:Nat)(X:FB)(G:List Ad)(hG:Lax G)(c:Int):
    Dz 34 [pv fb,iv c] [all (flk fb X G)] (fun v Γ'=>v= .string ((cmI X.F c).name)∧Γ'=[]):=by
 refine Ba func34 ntmps34 fun w0=>?_;refine Jz 9 ?_;refine Jqf (gV fb X G hG c) (by show owns (flk fb X G)++[]=[];rw[(Gf hG).owns];rfl) (ag (au 0 rfl) (af _)) ?_;rintro _ _ ⟨rfl,rfl⟩;refine⟨rfl,?_⟩;refine Jr (Rt (vs:=[.string ((cmI X.F c).name), .slice ((cmI X.F c).Av) ((cmI X.F c).vars.length) ((cmI X.F c).qv), .slice ((cmI X.F c).An) ((cmI X.F c).vers.length) ((cmI X.F c).qn)]) rfl underlying107 rfl underlying9 rfl rfl rfl) ?_;refine Jz 4 ?_;refine Cq (bv results34 ?_);exact⟨rfl,rfl⟩
theorem mR(fb:Nat)(X:FB)(G:List Ad)(hG:Lax G)(c:Int):
    Dz 35 [pv fb,iv c] [all (flk fb X G)] (fun v Γ'=>v=nv ((cmI X.F c).vers.length)∧Γ'=[]):=by
 refine Ba func35 ntmps35 fun w0=>?_;refine Jz 9 ?_;refine Jqf (gV fb X G hG c) (by show owns (flk fb X G)++[]=[];rw[(Gf hG).owns];rfl) (ag (au 0 rfl) (af _)) ?_;rintro _ _ ⟨rfl,rfl⟩;refine⟨rfl,?_⟩;refine Jr (Rt (vs:=[.string ((cmI X.F c).name), .slice ((cmI X.F c).Av) ((cmI X.F c).vars.length) ((cmI X.F c).qv), .slice ((cmI X.F c).An) ((cmI X.F c).vers.length) ((cmI X.F c).qn)]) rfl underlying107 rfl underlying105 rfl rfl rfl) ?_;refine Jz 5 ?_;refine Cq (bv results35 ?_);exact⟨rfl,rfl⟩
theorem Bc(fb:Nat)(X:FB)(G:List Ad)(hG:Lax G)(c:Int):
    Dz 31 [pv fb,iv c] [all (flk fb X G)] (fun v Γ'=>v= .string ((fgI X.F c).name)∧Γ'=[]):=by
 refine Ba func31 ntmps31 fun w0=>?_;refine Jz 9 ?_;refine Jqf (aSi fb X G hG c) (by show owns (flk fb X G)++[]=[];rw[(Gf hG).owns];rfl) (ag (au 0 rfl) (af _)) ?_;rintro _ _ ⟨rfl,rfl⟩;refine⟨rfl,?_⟩;refine Jr (Rt (vs:=[.string ((fgI X.F c).name), .bool ((fgI X.F c).init)]) rfl underlying169 rfl underlying9 rfl rfl rfl) ?_;refine Jz 4 ?_;refine Cq (bv results31 ?_);exact⟨rfl,rfl⟩
theorem Br(fb:Nat)(X:FB)(G:List Ad)(hG:Lax G)(c:Int):
    Dz 32 [pv fb,iv c] [all (flk fb X G)] (fun v Γ'=>v= .bool ((fgI X.F c).init)∧Γ'=[]):=by
 refine Ba func32 ntmps32 fun w0=>?_;refine Jz 9 ?_;refine Jqf (aSi fb X G hG c) (by show owns (flk fb X G)++[]=[];rw[(Gf hG).owns];rfl) (ag (au 0 rfl) (af _)) ?_;rintro _ _ ⟨rfl,rfl⟩;refine⟨rfl,?_⟩;refine Jr (Rt (vs:=[.string ((fgI X.F c).name), .bool ((fgI X.F c).init)]) rfl underlying169 rfl underlying4 rfl rfl rfl) ?_;refine Jz 4 ?_;refine Cq (bv results32 ?_);exact⟨rfl,rfl⟩
theorem IG(fb:Nat)(X:FB)(G:List Ad)(A:OA)(q:Nat)(ps:List PP)(hP:PgX X G A q ps)(k:Nat)(p:PP)(hp:ps[k]?=some p):
    Dz 45 [.pointer (some ⟨X.pb,0,none⟩),nv k] [all (flk fb X G)] (fun v Γ'=>∃(B:OA) (r:Nat),v=vs B p.names r∧Γ'=[rows Dc 9 1 B r p.names]):=by
 have hkp:k<ps.length:=(aOz.1 hp).1;have hnl:=hP.nms p (av hp);refine Ba func45 ntmps45 fun w0=>?_;refine Jz 7 ?_;refine bz 0 rfl (ro (some ⟨X.pb,0,none⟩) [vs A ps q]) rfl (BV _ hP.pg.box) (bz 1 rfl (ros Tz A ps) rfl (BV _ hP.pg.row) (Jz 2 ?_));refine Jr (Fh rfl underlying66 rfl rfl) ?_;refine Jz 4 ?_;refine JgP ?_ ?_<;>intro g11;exact aPu g11 om;refine Jz 4 ?_;refine Jr (Cu (i:=1) rfl rfl dO rfl (Eb (A:=some ⟨X.pb,0,none⟩) (o:=0) (k:=1) rfl)) ?_;refine Jz 5 ?_;refine ax rfl ?_ ?_<;>intro k19;exact aPu k19 om;refine Jz 3 ?_;refine bz 2 rfl (ros Dc p.An p.names) rfl (BV _ (hP.pg.nm p (av hp))) (Jz 4 ?_);refine Jr (Cu (i:=2) rfl rfl dO rfl (Eb (A:=some ⟨X.pb,0,none⟩) (o:=0) (k:=1) rfl)) ?_;refine Jz 4 ?_;refine Jqf (PZ p.An p.qn p.names om) rfl (ag (au 0 rfl) (af _)) ?_;rintro _ _ ⟨Bn,pn,rfl,rfl⟩;refine⟨rfl,?_⟩;refine Jz 4 ?_;refine Dr (Da (Ck (Cr (bv results45 ?_))));exact⟨_,_,rfl,rfl⟩
theorem II(fb:Nat)(X:FB)(G:List Ad)(A:OA)(q:Nat)(ps:List PP)(hP:PgX X G A q ps)(c:Int)(hc:c<0∨(ps.length:Int)≤c):
    Dz 45 [.pointer (some ⟨X.pb,0,none⟩),iv c] [all (flk fb X G)] (fun v Γ'=>v= .slice none 0 0∧Γ'=[]):=by
 refine Ba func45 ntmps45 fun w0=>?_;refine Jz 7 ?_;refine bz 0 rfl (ro (some ⟨X.pb,0,none⟩) [vs A ps q]) rfl (BV _ hP.pg.box) (Jz 2 ?_);refine Jr (Fh rfl underlying66 rfl rfl) ?_;refine Jz 4 ?_;refine JgP ?_ ?_<;>intro g11;refine Jz 18 ?_;refine Cr (Cq (bv results45 ?_));exact⟨rfl,rfl⟩;refine Jz 4 ?_;refine Jr (Cu (i:=0) rfl rfl dO rfl (Eb (A:=some ⟨X.pb,0,none⟩) (o:=0) (k:=1) rfl)) ?_;refine Jz 5 ?_;refine ax rfl ?_ ?_<;>intro c19;refine Jz 7 ?_;refine Cr (Cq (bv results45 ?_));exact⟨rfl,rfl⟩;exact aPu hc om
theorem QH(fb:Nat)(X:FB)(G:List Ad)(A:OA)(q:Nat)(ps:List PP)(hP:PgX X G A q ps)(c:Int):Dz 45 [.pointer (some ⟨X.pb,0,none⟩),iv c] [all (flk fb X G)] (fun v Γ'=>∃(B:OA) (r:Nat),v= .slice B (hnI ps c).length r∧Γ'=[rows Dc 9 1 B r (hnI ps c)]):=by
 rcases Lv ps c with h|⟨k,p,rfl,h⟩
 ·rw[XI h];exact(tK (II fb X G A q ps hP c h)).mono fun v Γ' ⟨h1,h2⟩=>⟨none,0,h1,h2⟩
 ·rw[IA h];exact IG fb X G A q ps hP k p h
theorem Zv(fb:Nat)(X:FB)(G:List Ad)(A:OA)(q:Nat)(ps:List PP)(hP:PgX X G A q ps)(c:Int):
    Dz 15 [pv fb,iv c] [all (flk fb X G)] (fun v Γ'=>∃(B:OA) (r:Nat),v= .slice B (hnI ps c).length r∧Γ'=[rows Dc 9 1 B r (hnI ps c)]):=by
 refine Ba func15 ntmps15 fun w0=>?_;refine Jz 9 ?_;refine Jr (Fh rfl underlying27 rfl rfl) ?_;refine Jz 6 ?_;refine bz 0 rfl (ro (some ⟨fb,0,none⟩) [.string X.F.name,vs X.F.Af X.F.flags X.F.qf,vs X.F.Al X.F.links X.F.ql,vs X.F.Ac X.F.comps X.F.qc, .string X.src,ub (X.id 0),ub (X.id 1),ub (X.id 2),ub (X.id 3),ub (X.id 4),ub (X.id 5),ub (X.id 6),ub (X.id 7),ub (X.id 8),ub (X.id 9),ub (X.id 10),ub (X.id 11),ub (X.id 12),ub (X.id 13),ub (X.id 14),ub (X.id 15),ub (X.id 16),ub (X.id 17),ub (X.id 18),ub (X.id 19),ub (X.id 20),ub (X.id 21),ub (X.id 22),ub (X.id 23),ub (X.id 24),ub (X.id 25),ub (X.id 26),ub (X.id 27),ub (X.id 28),ub (X.id 29),ub (X.id 30),ub (X.id 31), .pointer (some ⟨X.pb,0,none⟩)]) rfl (gU) (Jz 4 ?_);refine Jr (Cu (i:=0) rfl rfl c66 rfl (Eb (A:=some ⟨fb,0,none⟩) (o:=37) (k:=1) rfl)) ?_;refine Jm ?_;refine Jqf (QH fb X G A q ps hP c) (by show owns (flk fb X G)++[]=[];rw[(Gf hP.pg.lax).owns];rfl) (ag (au 1 rfl) (af _)) ?_;rintro _ _ ⟨Bn,pn,rfl,rfl⟩;refine⟨rfl,?_⟩;refine Jz 4 ?_;refine Ck (Cr (bv results15 ?_));exact⟨_,_,rfl,rfl⟩
theorem CJ(fb:Nat)(X:FB)(G:List Ad)(A:OA)(q:Nat)(ps:List PP)(hP:PgX X G A q ps)(c v h:Int)(hbad:v<1∨((cmI X.F c).vers.length:Int)<v∨h<0∨((hnI ps c).length:Int)≤h):
    Dz 17 [pv fb,iv c,iv v,iv h] [all (flk fb X G)] (fun v Γ'=>v= .tuple #[iv 0,bf]∧Γ'=[]):=by
 refine Ba func17 ntmps17 fun w0=>?_;refine Jz 10 ?_;refine Jqf (gV fb X G hP.pg.lax c) (by show owns (flk fb X G)++[]=[];rw[(Gf hP.pg.lax).owns];rfl) (ag (au 0 rfl) (af _)) ?_;rintro _ _ ⟨rfl,rfl⟩;refine⟨rfl,?_⟩;refine Jz 2 ?_;refine Jqf (Zv fb X G A q ps hP c) (by show owns (flk fb X G)++[]=[];rw[(Gf hP.pg.lax).owns];rfl) (ag (au 0 rfl) (af _)) ?_;rintro _ _ ⟨Bn,pn,rfl,rfl⟩;refine⟨rfl,?_⟩;refine ay fun b10=>?_;refine Jz 9 ?_;refine JgP ?_ ?_<;>intro g24;refine Jz 27 ?_;refine Ck (Cr (Cq (Eo (.inl rfl) results17 rfl rfl ?_)));exact⟨rfl,rfl⟩;refine Jz 6 ?_;refine JgP ?_ ?_<;>intro g31;refine Jz 20 ?_;refine Ck (Cr (Cq (Eo (.inl rfl) results17 rfl rfl ?_)));exact⟨rfl,rfl⟩;refine Jz 3 ?_;refine JgP ?_ ?_<;>intro g35;refine Jz 16 ?_;refine Ck (Cr (Cq (Eo (.inl rfl) results17 rfl rfl ?_)));exact⟨rfl,rfl⟩;refine Jz 7 ?_;refine ax rfl ?_ ?_<;>intro k40;refine Jz 8 ?_;refine Ck (Cr (Cq (Eo (.inl rfl) results17 rfl rfl ?_)));exact⟨rfl,rfl⟩;exact aPu hbad om
theorem XM(fb:Nat)(X:FB)(G:List Ad)(A:OA)(q:Nat)(ps:List PP)(hP:PgX X G A q ps)(hC:X.F.Cap)(k:Nat)(x:Cm)(hx:X.F.comps[k]?=some x)(v h:Nat)(hv1:1≤v)(hv2:v≤x.vers.length)(nm:yB)(hnm:(hnI ps (k:Int))[h]?=some nm)(hvl:x.vers.length≤1000)(hhl:∀y∈x.vers,y.l.length≤1000):
    Dz 17 [pv fb,nv k,nv v,nv h] [all (flk fb X G)] (fun r Γ'=>r= .tuple #[nv ((Xh nm (x.vers.take v)).getD 0), .bool (Xh nm (x.vers.take v)).isSome]∧Γ'=[]):=by
 have hhn:h<(hnI ps (k:Int)).length:=(aOz.1 hnm).1;have hqn:x.vers.length≤x.qn:=(hC.2 x (av hx)).1.2;have htk:(x.vers.take v).length=v:=by rw[aPo];omega
 refine Ba func17 ntmps17 fun w0=>?_;refine Jz 10 ?_;refine Jqf (Wq fb X G hP.pg.lax k x hx) (by show owns (flk fb X G)++[]=[];rw[(Gf hP.pg.lax).owns];rfl) (ag (au 0 rfl) (af _)) ?_;rintro _ _ ⟨rfl,rfl⟩;refine⟨rfl,?_⟩;refine Jz 2 ?_;refine Jqf (Zv fb X G A q ps hP (k:Int)) (by show owns (flk fb X G)++[]=[];rw[(Gf hP.pg.lax).owns];rfl) (ag (au 0 rfl) (af _)) ?_;rintro _ _ ⟨Bn,pn,rfl,rfl⟩;refine⟨rfl,?_⟩;refine ay fun b10=>?_;refine Jz 9 ?_;refine JgP ?_ ?_<;>intro g24;exact aPu g24 om;refine Jz 6 ?_;refine JgP ?_ ?_<;>intro g31;exact aPu g31 om;refine Jz 3 ?_;refine JgP ?_ ?_<;>intro g35;exact aPu g35 om;refine Jz 7 ?_;refine ax rfl ?_ ?_<;>intro k40
 first|exact aPu c40 om|exact aPu k40 om|exact aPu g40 om
 refine Jz 4 ?_;refine bz 2 rfl (ros Fq x.An x.vers) rfl (pM _ (Dg hx _ (Kk (k:=eX)))) (BX v 0 rfl (Jz 4 ?_));refine Jr (Cn (v':= .slice x.An (x.vers.take v).length x.qn) (by rw[htk]) (Gq (hi:=v) rfl aAp rfl rfl om)) ?_;refine Jz 5 ?_;refine Bz (fun s g mz ρ Γ=>∃(j:Nat),ρ=[s 0,s 3,s 11,s 44,s 45,(46,nv j)]∧Γ=[g 4,g 0,g 3]∧mz=(x.vers.take v).length-j∧(j≤(x.vers.take v).length)∧(Xh nm (x.vers.take v)=Xh nm ((x.vers.take v).drop j))) ⟨⟨0,rfl,rfl,rfl,om,rfl⟩,sb⟩ ?_;rintro mz _ _ ⟨j,rfl,rfl,rfl,hj,hS⟩;refine Jz 6 ?_;refine ax rfl ?_ ?_<;>intro k47;obtain⟨y,hy⟩:=bq (x.vers.take v) j om;refine Jz 8 ?_;refine ay fun b13=>?_;refine Jz 12 ?_;have hyv:x.vers[j]?=some y:=by rw[aRl,aPr om]at hy;exact hy
 have hyl:=hhl y (av hyv);refine bz 1 rfl (ros Ii y.A y.l) rfl (pM _ (Dg hx _ (Ir hyv _ (Ue (k:=eX))))) (Bz (fun s g mz ρ Γ=>∃(k2:Nat),ρ=[s 0,s 3,s 11,s 44,s 45,s 46,s 51,s 52,(53,nv k2)]∧Γ=[g 2,g 3,g 0,g 4]∧mz=y.l.length-k2∧(k2≤y.l.length)∧(Xh nm (x.vers.take v)=match Xg nm (y.l.drop k2)with|some n=>some n|none=>Xh nm ((x.vers.take v).drop (j+1)))) ⟨⟨0,rfl,rfl,rfl,om,(by rw[hS,aDn hy];rfl)⟩,sb⟩ ?_);rintro mz _ _ ⟨k2,rfl,rfl,rfl,hk,hT⟩;refine Jz 6 ?_;refine ax rfl ?_ ?_<;>intro k54;obtain⟨z,hz⟩:=bq y.l k2 om;refine Jz 8 ?_;refine ay fun b15=>?_;refine Jz 4 ?_;refine Jfw [] [0,2,3,101,104,105,6] (af _) ?_;refine Jz 6 ?_;refine di rfl (Ky rfl rfl rfl) ?_;refine Jz 2 ?_;refine ax rfl ?_ ?_<;>intro k63;refine Jz 19 ?_;refine Dr (Da (Ck (Cr (Cq (Eo (.inl rfl) results17 rfl rfl ?_)))));have hr:Xh nm (x.vers.take v)=some z.ps.length:=by rw[hT,XJ hz k63]
 rw[hr];exact⟨rfl,rfl⟩;refine Jz 8 ?_;refine Bp ⟨⟨k2+1,rfl,rfl,rfl,om,(by rw[hT,QF hz k63])⟩,sb⟩;refine Jz 11 ?_;refine Bp ⟨⟨j+1,rfl,rfl,rfl,om,(by rw[hT,aQy om];rfl)⟩,sb⟩;refine Jz 12 ?_;refine Ck (Cr (Cq (Eo (.inl rfl) results17 rfl rfl ?_)));have hr:Xh nm (x.vers.take v)=none:=by rw[hS,aQy om];rfl
 rw[hr];exact⟨rfl,rfl⟩
theorem QI(fb:Nat)(X:FB)(G:List Ad)(hG:Lax G)(c p:Int)(hbad:p<0∨((cmI X.F c).vars.length:Int)≤p):
    Dz 12 [pv fb,iv c,iv p] [all (flk fb X G)] (fun v Γ'=>v= .tuple #[iv 0,bf,bf]∧Γ'=[]):=by
 refine Ba func12 ntmps12 fun w0=>?_;refine Jz 11 ?_;refine Jqf (gV fb X G hG c) (by show owns (flk fb X G)++[]=[];rw[(Gf hG).owns];rfl) (ag (au 0 rfl) (af _)) ?_;rintro _ _ ⟨rfl,rfl⟩;refine⟨rfl,?_⟩;refine Jr (Rt (vs:=[.string ((cmI X.F c).name), .slice ((cmI X.F c).Av) ((cmI X.F c).vars.length) ((cmI X.F c).qv), .slice ((cmI X.F c).An) ((cmI X.F c).vers.length) ((cmI X.F c).qn)]) rfl underlying107 rfl underlying88 rfl rfl rfl) ?_;refine Jz 8 ?_;refine JgP ?_ ?_<;>intro g18;refine Jz 17 ?_;refine Cq (Nv (.inl rfl) results12 rfl rfl rfl ?_);exact⟨rfl,rfl⟩;refine Jz 7 ?_;refine ax rfl ?_ ?_<;>intro k23;refine Jz 9 ?_;refine Cq (Nv (.inl rfl) results12 rfl rfl rfl ?_);exact⟨rfl,rfl⟩;exact aPu hbad om
theorem QJ(fb:Nat)(X:FB)(G:List Ad)(hG:Lax G)(hC:X.F.Cap)(k:Nat)(x:Cm)(hx:X.F.comps[k]?=some x)(p:Nat)(z:Vr)(hz:x.vars[p]?=some z)(hvl:x.vars.length≤1000):
    Dz 12 [pv fb,nv k,nv p] [all (flk fb X G)] (fun r Γ'=>r= .tuple #[nv (vkN (decide (z.ty=3)) (x.vars.take p)), .bool (decide (z.ty=3)),bt]∧Γ'=[]):=by
 have hpl:p<x.vars.length:=(aOz.1 hz).1;have hqv:x.vars.length≤x.qv:=(hC.2 x (av hx)).1.1;have htk:(x.vars.take p).length=p:=by rw[aPo];omega
 refine Ba func12 ntmps12 fun w0=>?_;refine Jz 11 ?_;refine Jqf (Wq fb X G hG k x hx) (by show owns (flk fb X G)++[]=[];rw[(Gf hG).owns];rfl) (ag (au 0 rfl) (af _)) ?_;rintro _ _ ⟨rfl,rfl⟩;refine⟨rfl,?_⟩;refine Jr (Rt (vs:=(cX x [])) rfl underlying107 rfl underlying88 rfl rfl rfl) ?_;refine Jz 8 ?_;refine JgP ?_ ?_<;>intro g18
 first|exact aPu c18 om|exact aPu k18 om|exact aPu g18 om
 refine Jz 7 ?_;refine ax rfl ?_ ?_<;>intro k23
 first|exact aPu c23 om|exact aPu k23 om|exact aPu g23 om
 refine Jz 3 ?_;refine bz 0 rfl (ros Hg x.Av x.vars) rfl (pM _ (Dg hx _ (Kj (k:=eX)))) (Jz 6 ?_);refine Jr (Cn (v':= .bool (decide (z.ty=3))) (by rw[tL]) (Rd.eql rfl rfl rfl)) ?_;refine Jz 5 ?_;refine BX p 0 rfl (Jz 3 ?_);refine Jr (Cn (v':= .slice x.Av (x.vars.take p).length x.qv) (by rw[htk]) (Gq (hi:=p) rfl s88 rfl rfl om)) ?_;refine Jz 5 ?_;refine Bz (fun s g mz ρ Γ=>∃(n:Nat) (j:Nat),ρ=[(6,nv n),s 7,s 32,s 33,(34,nv j)]∧Γ=[g 2,g 0]∧mz=(x.vars.take p).length-j∧(j≤(x.vars.take p).length)∧(n≤j)∧(vkN (decide (z.ty=3)) (x.vars.take p)=n+vkN (decide (z.ty=3)) ((x.vars.take p).drop j))) ⟨⟨0,0,rfl,rfl,rfl,om,(aPl _),(by rw[List.drop_zero];omega)⟩,sb⟩ ?_;rintro mz _ _ ⟨n,j,rfl,rfl,rfl,hj,hn,hS⟩;refine Jz 6 ?_;refine ax rfl ?_ ?_<;>intro k35;obtain⟨y,hy⟩:=bq (x.vars.take p) j om;refine Jz 8 ?_;refine ay fun b11=>?_;refine Jz 7 ?_;refine Jr (Cn (v':= .bool (decide (y.ty=3))) (by rw[tL]) (Rd.eql rfl rfl rfl)) ?_;refine Jm ?_;refine Jr (jJ rfl underlying4 rfl rfl) ?_;refine Jn (Jt (Ej rfl (fun k42=>?_) (fun k42=>?_)));have h42:decide (y.ty=3)=(decide (z.ty=3)):=by simpa using k42
 refine Jz 12 ?_;refine Bp ⟨⟨n+1,j+1,rfl,rfl,rfl,om,om,(by rw[hS,KZ hy h42];omega)⟩,sb⟩;have h42:¬decide (y.ty=3)=(decide (z.ty=3)):=by simpa using k42
 refine Jz 8 ?_;refine Bp ⟨⟨n,j+1,rfl,rfl,rfl,om,om,(by rw[hS,CB hy h42])⟩,sb⟩;refine Jz 15 ?_;refine Cr (Cq (Nv (.inl rfl) results12 rfl rfl rfl ?_));have hr:vkN (decide (z.ty=3)) (x.vars.take p)=n:=by rw[hS,aQy om];rfl
 rw[hr];exact⟨rfl,rfl⟩
theorem XN(fb:Nat)(X:FB)(G:List Ad)(hG:Lax G)(a b:Int)(hbad:a<0∨(X.F.comps.length:Int)≤a∨b<0∨(X.F.comps.length:Int)≤b):
    Dz 24 [pv fb,iv a,iv b] [all (flk fb X G)] (fun v Γ'=>v=iv 0∧Γ'=[]):=by
 refine Ba func24 ntmps24 fun w0=>?_;refine Jz 8 ?_;refine Jqf (Wp fb X G hG) (by show owns (flk fb X G)++[]=[];rw[(Gf hG).owns];rfl) (ag (au 0 rfl) (af _)) ?_;rintro _ _ ⟨rfl,rfl⟩;refine⟨rfl,?_⟩;refine Jz 8 ?_;refine JgP ?_ ?_<;>intro g14;refine Jz 23 ?_;refine Cq (bv results24 ?_);exact⟨rfl,rfl⟩;refine Jz 4 ?_;refine JgP ?_ ?_<;>intro g19;refine Jz 18 ?_;refine Cq (bv results24 ?_);exact⟨rfl,rfl⟩;refine Jz 3 ?_;refine JgP ?_ ?_<;>intro g23;refine Jz 14 ?_;refine Cq (bv results24 ?_);exact⟨rfl,rfl⟩;refine Jz 6 ?_;refine ax rfl ?_ ?_<;>intro k27;refine Jz 7 ?_;refine Cq (bv results24 ?_);exact⟨rfl,rfl⟩;exact aPu hbad om
theorem XO(fb:Nat)(X:FB)(G:List Ad)(hG:Lax G)(a b:Int)(ha:0≤a∧a<X.F.comps.length)(hb:0≤b∧b<X.F.comps.length)(hll:X.F.links.length≤1000):
    Dz 24 [pv fb,iv a,iv b] [all (flk fb X G)] (fun v Γ'=>v=iv (pO (cmI X.F a).name (cmI X.F b).name X.F.links)∧Γ'=[]):=by
 refine Ba func24 ntmps24 fun w0=>?_;refine Jz 8 ?_;refine Jqf (Wp fb X G hG) (by show owns (flk fb X G)++[]=[];rw[(Gf hG).owns];rfl) (ag (au 0 rfl) (af _)) ?_;rintro _ _ ⟨rfl,rfl⟩;refine⟨rfl,?_⟩;refine Jz 8 ?_;refine JgP ?_ ?_<;>intro g14
 first|exact aPu c14 om|exact aPu k14 om|exact aPu g14 om
 refine Jz 4 ?_;refine JgP ?_ ?_<;>intro g19
 first|exact aPu c19 om|exact aPu k19 om|exact aPu g19 om
 refine Jz 3 ?_;refine JgP ?_ ?_<;>intro g23
 first|exact aPu c23 om|exact aPu k23 om|exact aPu g23 om
 refine Jz 6 ?_;refine ax rfl ?_ ?_<;>intro k27
 first|exact aPu c27 om|exact aPu k27 om|exact aPu g27 om
 refine Jz 4 ?_;refine bz 0 rfl (ro (some ⟨fb,0,none⟩) [.string X.F.name,vs X.F.Af X.F.flags X.F.qf,vs X.F.Al X.F.links X.F.ql,vs X.F.Ac X.F.comps X.F.qc, .string X.src,ub (X.id 0),ub (X.id 1),ub (X.id 2),ub (X.id 3),ub (X.id 4),ub (X.id 5),ub (X.id 6),ub (X.id 7),ub (X.id 8),ub (X.id 9),ub (X.id 10),ub (X.id 11),ub (X.id 12),ub (X.id 13),ub (X.id 14),ub (X.id 15),ub (X.id 16),ub (X.id 17),ub (X.id 18),ub (X.id 19),ub (X.id 20),ub (X.id 21),ub (X.id 22),ub (X.id 23),ub (X.id 24),ub (X.id 25),ub (X.id 26),ub (X.id 27),ub (X.id 28),ub (X.id 29),ub (X.id 30),ub (X.id 31), .pointer (some ⟨X.pb,0,none⟩)]) rfl (gU) (bz 1 rfl (ros Jv X.F.Al X.F.links) rfl (pM _ (Oq (k:=eX))) (Jz 5 ?_));refine Jr (Cu (i:=1) rfl rfl c71 rfl (Eb (A:=some ⟨fb,0,none⟩) (o:=2) (k:=1) rfl)) ?_;refine Jz 5 ?_;refine Bz (fun s g mz ρ Γ=>∃(j:Nat),ρ=[s 0,s 1,s 2,s 32,s 33,(34,nv j)]∧Γ=[g 2,g 0]∧mz=X.F.links.length-j∧(j≤X.F.links.length)∧(pO (cmI X.F a).name (cmI X.F b).name X.F.links=pO (cmI X.F a).name (cmI X.F b).name (X.F.links.drop j))) ⟨⟨0,rfl,rfl,rfl,om,rfl⟩,sb⟩ ?_;rintro mz _ _ ⟨j,rfl,rfl,rfl,hj,hS⟩;refine Jz 6 ?_;refine ax rfl ?_ ?_<;>intro k35;obtain⟨y,hy⟩:=bq X.F.links j om;refine Jz 8 ?_;refine ay fun b9=>?_;refine Jz 4 ?_;refine Jfw [] [0,2,3,304,101,5,6,7,9,10,311,108,12,13] (af _) ?_;refine Jz 3 ?_;refine bQ rfl rfl rfl rfl .fc ((tO fb X G hG a).mono fun _ _ h=>h.1) (by show owns (flk fb X G)++[]=[];rw[(Gf hG).owns];rfl) (ag (au 1 rfl) (af _)) ?_;refine Jz 1 ?_;refine di rfl (Ky rfl rfl rfl) ?_;refine Xo rfl rfl rfl rfl (dz rfl rfl) (fun g44=>?_) (fun g44=>?_);refine Jz 3 ?_;refine bQ rfl rfl rfl rfl .fc ((tO fb X G hG b).mono fun _ _ h=>h.1) (by show owns (flk fb X G)++[]=[];rw[(Gf hG).owns];rfl) (ag (au 1 rfl) (af _)) ?_;refine Jz 1 ?_;refine di rfl (Ky rfl rfl rfl) ?_;refine Jz 3 ?_;refine ax rfl ?_ ?_<;>intro k51;refine Jz 13 ?_;refine Ck (Cr (Cq (bv results24 ?_)));have hr:pO (cmI X.F a).name (cmI X.F b).name X.F.links=y.lat:=by rw[hS];exact XK hy (by simp_all) (by simp_all)
 rw[hr];exact⟨rfl,rfl⟩;refine Jz 8 ?_;refine Bp ⟨⟨j+1,rfl,rfl,rfl,om,(by rw[hS,tN hy (fun h=>by simp_all)])⟩,sb⟩;refine Jz 18 ?_;refine Bp ⟨⟨j+1,rfl,rfl,rfl,om,(by rw[hS,tN hy (fun h=>by simp_all)])⟩,sb⟩;refine Jz 11 ?_;refine Cr (Cq (bv results24 ?_));have hr:pO (cmI X.F a).name (cmI X.F b).name X.F.links=1:=by rw[hS,aQy om];rfl
 rw[hr];exact⟨rfl,rfl⟩
def CK(s:yB):List PH→oP Nat
 |[]=>none
 |h::r=>if h.name=s then some h.ps.length else CK s r
def tT(s:yB):List (List PH)→oP Nat
 |[]=>none
 |v::r=>match CK s v with|some n=>some n|none=>tT s r
theorem tV(s:yB):∀l:List Hd,Xg s l=CK s (l.map Hd.pure)
 |[]=>rfl
 | h::r=>by
   show(if h.name=s then some h.ps.length else Xg s r)=(if h.name=s then some h.ps.length else CK s (r.map Hd.pure));rw[tV s r]
theorem gW(s:yB):∀l:List Vs,Xh s l=tT s (l.map Vs.pure)
 |[]=>rfl
 | v::r=>by
   show(match Xg s v.l with|some n=>some n|none=>Xh s r)=(match CK s (v.l.map Hd.pure)with|some n=>some n|none=>tT s (r.map Vs.pure));rw[gW s r,tV]
def PcZ:PC:=⟨nE,[],[]⟩
def pcI(F:PF)(c:Int):PC:=(atI F.comps c).getD PcZ
theorem pQ(F:Fl)(c:Int):(cmI F c).pure=pcI F.pure c:=by
 rcases Lv F.comps c with h|⟨k,x,rfl,h⟩
 ·rw[Yx h];unfold pcI;rw[Qx (by show c<0∨((F.comps.map Cm.pure).length:Int)≤c;rw[aPg];exact h)];rfl
 ·rw[Sy h];unfold pcI;rw[Ua,show F.pure.comps[k]?=some x.pure by show(F.comps.map Cm.pure)[k]?=_;rw[aPs,h];rfl];rfl
theorem CL(F:Fl)(c:Int):(cmI F c).name=(pcI F.pure c).name:=by rw[←pQ];rfl
theorem Vb(F:Fl)(c:Int):(cmI F c).vars=(pcI F.pure c).vars:=by rw[←pQ];rfl
theorem fB(F:Fl)(c:Int):(cmI F c).vers.map Vs.pure=(pcI F.pure c).vers:=by rw[←pQ];rfl
def Pq(F:PF)(ps:List PP)(c v h:Int):oP Nat:=
 if v<1∨((pcI F c).vers.length:Int)<v then none else match atI (hnI ps c) h with
  |some s=>tT s ((pcI F c).vers.take v.toNat)
  |none=>none
def Nw(F:PF)(c p:Int):oP (Nat×Bool):=match atI (pcI F c).vars p with
 |some x=>some (vkN (decide (x.ty=3)) ((pcI F c).vars.take p.toNat),decide (x.ty=3))
 |none=>none
def QK(F:PF)(a b:Int):Int:=if a<0∨(F.comps.length:Int)≤a∨b<0∨(F.comps.length:Int)≤b then 0 else pO (pcI F a).name (pcI F b).name F.links
structure PFB(F:PF):Prop where
 links:F.links.length≤1000
 comps:∀c∈F.comps,c.vars.length≤1000∧c.vers.length≤1000∧∀v∈c.vers,v.length≤1000
theorem PFB.at_{F:Fl}(h:PFB F.pure){k:Nat}{x:Cm}(hx:F.comps[k]?=some x):x.vars.length≤1000∧x.vers.length≤1000∧∀y∈x.vers,y.l.length≤1000:=by
 obtain⟨h1,h2,h3⟩:=h.comps x.pure (aPx.2 ⟨x,av hx,rfl⟩);refine⟨h1,by have h4:(x.vers.map Vs.pure).length≤1000:=h2;rwa[aPg]at h4,fun y hy=>?_⟩;have h4:(y.l.map Hd.pure).length≤1000:=h3 y.pure (aPx.2 ⟨y,hy,rfl⟩);rwa[aPg]at h4
theorem LA(fb:Nat)(X:FB)(G:List Ad)(A:OA)(q:Nat)(ps:List PP)(hP:PgX X G A q ps)(hC:X.F.Cap)(hB:PFB X.F.pure)(c v h:Int):Dz 17 [pv fb,iv c,iv v,iv h] [all (flk fb X G)] (fun r Γ'=>r= .tuple #[nv ((Pq X.F.pure ps c v h).getD 0), .bool (Pq X.F.pure ps c v h).isSome]∧Γ'=[]):=by
 have hvl:(cmI X.F c).vers.length=(pcI X.F.pure c).vers.length:=by rw[←fB,aPg]
 by_cases hv:v<1∨((pcI X.F.pure c).vers.length:Int)<v
 · rw[show Pq X.F.pure ps c v h=none by unfold Pq;rw[aPr hv]]
   exact CJ fb X G A q ps hP c v h om
 rcases Lv (hnI ps c) h with hh|⟨m,nm,rfl,hm⟩
 · rw[show Pq X.F.pure ps c v h=none by unfold Pq;rw[aPf hv,Qx hh]]
   exact CJ fb X G A q ps hP c v h om
 rcases Lv X.F.comps c with hc|⟨k,x,rfl,hx⟩
 · rw[←hvl,Yx hc]at hv
   exact(hv (by show v<1∨((0:Nat):Int)<v;omega)).elim
 · obtain⟨n,rfl⟩:∃n:Nat,v=(n:Int):=⟨v.toNat,by omega⟩
   rw[Sy hx]at hvl;obtain⟨b1,b2,b3⟩:=hB.at_ hx;have e:Pq X.F.pure ps (k:Int) (n:Int) (m:Int)=Xh nm (x.vers.take n):=by
    unfold Pq;rw[aPf hv,Ua,hm,gW,aSa,←fB,Sy hx];rfl
   rw[e];exact XM fb X G A q ps hP hC k x hx n m om om nm hm b2 b3
theorem CO(fb:Nat)(X:FB)(G:List Ad)(hG:Lax G)(hC:X.F.Cap)(hB:PFB X.F.pure)(c p:Int):Dz 12 [pv fb,iv c,iv p] [all (flk fb X G)] (fun r Γ'=>r= .tuple #[nv (((Nw X.F.pure c p).map Prod.fst).getD 0), .bool (((Nw X.F.pure c p).map Prod.snd).getD false), .bool (Nw X.F.pure c p).isSome]∧Γ'=[]):=by
 rcases Lv (cmI X.F c).vars p with hp|⟨n,z,rfl,hz⟩
 · rw[show Nw X.F.pure c p=none by unfold Nw;rw[←Vb,Qx hp]]
   exact QI fb X G hG c p hp
 rcases Lv X.F.comps c with hc|⟨k,x,rfl,hx⟩
 ·rw[Yx hc]at hz;cases hz
 · have e:Nw X.F.pure (k:Int) (n:Int)=some (vkN (decide (z.ty=3)) (x.vars.take n),decide (z.ty=3)):=by
     unfold Nw;rw[←Vb,Ua,hz,Sy hx];rfl
   rw[Sy hx]at hz;rw[e];exact QJ fb X G hG hC k x hx n z hz (hB.at_ hx).1
theorem aDr(fb:Nat)(X:FB)(G:List Ad)(hG:Lax G)(hB:PFB X.F.pure)(a b:Int):Dz 24 [pv fb,iv a,iv b] [all (flk fb X G)] (fun r Γ'=>r=iv (QK X.F.pure a b)∧Γ'=[]):=by
 have hl:X.F.pure.comps.length=X.F.comps.length:=aPg ..;by_cases h:a<0∨(X.F.comps.length:Int)≤a∨b<0∨(X.F.comps.length:Int)≤b
 · rw[show QK X.F.pure a b=0 by unfold QK;rw[aPr om]]
   exact XN fb X G hG a b h
 · rw[show QK X.F.pure a b=pO (cmI X.F a).name (cmI X.F b).name X.F.links by unfold QK;rw[aPf om,CL,CL];rfl]
   exact XO fb X G hG a b om om hB.links
end Go.Proofs.YtihgdnjkofpgiaaGreatDoor

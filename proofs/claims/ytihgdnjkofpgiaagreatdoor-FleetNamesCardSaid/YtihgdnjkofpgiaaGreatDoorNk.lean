/- Own text. -/
import Derived.Test.YtihgdnjkofpgiaaGreatDoorUo
import Derived.Shelf.Strconv.Itoa0
set_option maxHeartbeats 8000000
set_option maxRecDepth 100000
set_option linter.unusedVariables false
set_option linter.unusedSimpArgs false
namespace Go.Proofs.YtihgdnjkofpgiaaGreatDoor
open Go.RowKit Go.Flow Go.Mem Go.Sep Go.In
theorem aTb(b c:Nat)(s:yB)(k:Nat)(fb:Nat)(X:FB)(G:List Ad)(hG:Lax G):
    Bg Tryz.prog 67 [nv k,pv b,pv c] [ro (some ⟨b,0,none⟩) [pv fb],ro (some ⟨c,0,none⟩) [.string s],all (flk fb X G)] (fun v _=>v= .bool (decide ((cmI X.F (k:Int)).name=s))):=by
 refine Ba Tryz.func67 Tryz.ntmps67 fun w0=>?_;refine Jz 6 ?_;refine Jfw [] [1,100,302,103,4,5] (af _) ?_;refine Wt ?_;refine Ld rfl (Cu (i:=0) rfl rfl c27 rfl (Eb (A:=some ⟨b,0,none⟩) (o:=0) (k:=1) rfl)) ?_;refine bQ rfl rfl rfl rfl .fc ((tO fb X G hG (k:Int)).mono fun _ _ h=>h.1) (by show owns (flk fb X G)++[]=[];rw[(Gf hG).owns];rfl) (ag (au 2 rfl) (af _)) ?_;refine Ld rfl (Cu (i:=1) rfl rfl c9 rfl (Eb (A:=some ⟨c,0,none⟩) (o:=0) (k:=1) rfl)) ?_;refine di rfl (Ky rfl rfl rfl) ?_;refine Jz 4 ?_;refine bv Tryz.results67 ?_;rfl
theorem aTh(b c:Nat)(s:yB)(k:Nat)(y:Cm)(fb:Nat)(X:FB)(G:List Ad)(hG:Lax G)(hy:X.F.comps[k]?=some y):Bg Tryz.prog 67 [nv k,pv b,pv c] [ro (some ⟨b,0,none⟩) [pv fb],ro (some ⟨c,0,none⟩) [.string s],all (flk fb X G)] (fun v _=>v= .bool (decide (y.name=s))):=by
 have h:=aTb b c s k fb X G hG;rw[Sy hy]at h;exact h
theorem aTt(b c:Nat)(s:yB)(o:oP Nat)(fb:Nat)(X:FB)(G:List Ad)(hG:Lax G)(hl:X.F.comps.length≤1000)(ho:ixF s 0 (X.F.comps.map Cm.name)=o):
    Bg Tryz.prog 64 [nv X.F.comps.length, .func (.func 67) #[] #[pv b,pv c]] [ro (some ⟨b,0,none⟩) [pv fb],ro (some ⟨c,0,none⟩) [.string s],all (flk fb X G)] (fun v _=>v= .tuple #[nv (o.getD 0), .bool o.isSome]):=by
 refine Ba Tryz.func64 Tryz.ntmps64 fun w0=>?_;refine Jz 14 ?_;refine Jh (fun u g mz ρ Γ=>∃(k:Nat),ρ=[u 1,u 7,(8,nv k)]∧Γ=[g 0,g 1,g 2]∧mz=X.F.comps.length-k∧(k≤X.F.comps.length)∧(ixF s k ((X.F.comps.map Cm.name).drop k)=o)) ⟨⟨0,rfl,rfl,rfl,om,ho⟩,sb⟩ ?_;rintro mz _ _ ⟨k,rfl,rfl,rfl,hk,ho⟩;refine Jz 6 ?_;refine ax rfl ?_ ?_<;>intro k9;obtain⟨y,hy⟩:=bq X.F.comps k om;refine Jz 14 ?_;refine JcV rfl rfl rfl (dn (first:=[]) (captured:=[pv b,pv c]) rfl rfl rfl (kc.h 67 rfl)) (aTh b c s k y fb X G hG hy) (by show owns (flk fb X G)++[]=[];rw[(Gf hG).owns];rfl) (ag (au 0 rfl) (ag (au 1 rfl) (ag (au 2 rfl) (af _)))) (Jn (Jt (ax rfl (fun k13=>?_) (fun k13=>?_))));refine Jz 13 ?_;refine Eo (.inl rfl) Tryz.results64 rfl rfl ?_;rw[show o=some k from by rw[←ho];exact GI (by rw[aPs,hy,←k13];rfl)];rfl;refine Jz 8 ?_;refine Db ⟨⟨k+1,rfl,rfl,rfl,om,(by rw[←VQ (x:=y.name) (by rw[aPs,hy];rfl) k13];exact ho)⟩,sb⟩;refine Jz 12 ?_;refine Eo (.inl rfl) Tryz.results64 rfl rfl ?_;rw[show o=none from by rw[←ho];exact GJ (by rw[aPg];omega)];rfl
theorem aSo(fb:Nat)(X:FB)(G:List Ad)(hG:Lax G)(s:yB)(o:oP Nat)(hl:X.F.comps.length≤1000)(ho:ixF s 0 (X.F.comps.map Cm.name)=o):
    Bg Tryz.prog 33 [pv fb, .string s] [all (flk fb X G)] (fun v _=>v= .tuple #[nv (o.getD 0), .bool o.isSome]):=by
 refine Ba Tryz.func33 Tryz.ntmps33 fun w0=>?_;refine Js (dh (Jbo fun b2=>?_));refine Jbo fun b3=>?_;refine Jz 5 ?_;refine Lh (Zd (Lh (Zd (dh (Jr (Cu (i:=1) rfl rfl c27 rfl (Eb (A:=some ⟨b2,0,none⟩) (o:=0) (k:=1) rfl)) ?_)))));refine Jqf (Wp fb X G hG) (by show owns (flk fb X G)++[]=[];rw[(Gf hG).owns];rfl) (ag (au 2 rfl) (af _)) ?_;rintro _ _ ⟨rfl,rfl⟩;refine⟨rfl,?_⟩;refine Jr (Rd.makeFunc rfl rfl rfl) ?_;refine Jvf (aTt b2 b3 s o fb X G hG hl ho) (by show owns (flk fb X G)++[]=[];rw[(Gf hG).owns];rfl) (ag (au 1 rfl) (ag (au 0 rfl) (ag (au 2 rfl) (af _)))) ?_;refine Jz 7 ?_;refine Eo (.inl rfl) Tryz.results33 rfl rfl ?_;rfl
theorem aTi(b c:Nat)(s:yB)(k:Nat)(fb:Nat)(X:FB)(G:List Ad)(hG:Lax G):
    Bg Tryz.prog 65 [nv k,pv b,pv c] [ro (some ⟨b,0,none⟩) [pv fb],ro (some ⟨c,0,none⟩) [.string s],all (flk fb X G)] (fun v _=>v= .bool (decide ((fgI X.F (k:Int)).name=s))):=by
 refine Ba Tryz.func65 Tryz.ntmps65 fun w0=>?_;refine Jz 6 ?_;refine Jfw [] [1,100,302,103,4,5] (af _) ?_;refine Wt ?_;refine Ld rfl (Cu (i:=0) rfl rfl c27 rfl (Eb (A:=some ⟨b,0,none⟩) (o:=0) (k:=1) rfl)) ?_;refine bQ rfl rfl rfl rfl .fc ((Bc fb X G hG (k:Int)).mono fun _ _ h=>h.1) (by show owns (flk fb X G)++[]=[];rw[(Gf hG).owns];rfl) (ag (au 2 rfl) (af _)) ?_;refine Ld rfl (Cu (i:=1) rfl rfl c9 rfl (Eb (A:=some ⟨c,0,none⟩) (o:=0) (k:=1) rfl)) ?_;refine di rfl (Ky rfl rfl rfl) ?_;refine Jz 4 ?_;refine bv Tryz.results65 ?_;rfl
theorem aTu(b c:Nat)(s:yB)(k:Nat)(y:Fg)(fb:Nat)(X:FB)(G:List Ad)(hG:Lax G)(hy:X.F.flags[k]?=some y):Bg Tryz.prog 65 [nv k,pv b,pv c] [ro (some ⟨b,0,none⟩) [pv fb],ro (some ⟨c,0,none⟩) [.string s],all (flk fb X G)] (fun v _=>v= .bool (decide (y.name=s))):=by
 have h:=aTi b c s k fb X G hG;rw[aSl hy]at h;exact h
theorem aTv(b c:Nat)(s:yB)(o:oP Nat)(fb:Nat)(X:FB)(G:List Ad)(hG:Lax G)(hl:X.F.flags.length≤1000)(ho:ixF s 0 (X.F.flags.map Fg.name)=o):
    Bg Tryz.prog 64 [nv X.F.flags.length, .func (.func 65) #[] #[pv b,pv c]] [ro (some ⟨b,0,none⟩) [pv fb],ro (some ⟨c,0,none⟩) [.string s],all (flk fb X G)] (fun v _=>v= .tuple #[nv (o.getD 0), .bool o.isSome]):=by
 refine Ba Tryz.func64 Tryz.ntmps64 fun w0=>?_;refine Jz 14 ?_;refine Jh (fun u g mz ρ Γ=>∃(k:Nat),ρ=[u 1,u 7,(8,nv k)]∧Γ=[g 0,g 1,g 2]∧mz=X.F.flags.length-k∧(k≤X.F.flags.length)∧(ixF s k ((X.F.flags.map Fg.name).drop k)=o)) ⟨⟨0,rfl,rfl,rfl,om,ho⟩,sb⟩ ?_;rintro mz _ _ ⟨k,rfl,rfl,rfl,hk,ho⟩;refine Jz 6 ?_;refine ax rfl ?_ ?_<;>intro k9;obtain⟨y,hy⟩:=bq X.F.flags k om;refine Jz 14 ?_;refine JcV rfl rfl rfl (dn (first:=[]) (captured:=[pv b,pv c]) rfl rfl rfl (kc.h 65 rfl)) (aTu b c s k y fb X G hG hy) (by show owns (flk fb X G)++[]=[];rw[(Gf hG).owns];rfl) (ag (au 0 rfl) (ag (au 1 rfl) (ag (au 2 rfl) (af _)))) (Jn (Jt (ax rfl (fun k13=>?_) (fun k13=>?_))));refine Jz 13 ?_;refine Eo (.inl rfl) Tryz.results64 rfl rfl ?_;rw[show o=some k from by rw[←ho];exact GI (by rw[aPs,hy,←k13];rfl)];rfl;refine Jz 8 ?_;refine Db ⟨⟨k+1,rfl,rfl,rfl,om,(by rw[←VQ (x:=y.name) (by rw[aPs,hy];rfl) k13];exact ho)⟩,sb⟩;refine Jz 12 ?_;refine Eo (.inl rfl) Tryz.results64 rfl rfl ?_;rw[show o=none from by rw[←ho];exact GJ (by rw[aPg];omega)];rfl
theorem aSp(fb:Nat)(X:FB)(G:List Ad)(hG:Lax G)(s:yB)(o:oP Nat)(hl:X.F.flags.length≤1000)(ho:ixF s 0 (X.F.flags.map Fg.name)=o):
    Bg Tryz.prog 30 [pv fb, .string s] [all (flk fb X G)] (fun v _=>v= .tuple #[nv (o.getD 0), .bool o.isSome]):=by
 refine Ba Tryz.func30 Tryz.ntmps30 fun w0=>?_;refine Js (dh (Jbo fun b2=>?_));refine Jbo fun b3=>?_;refine Jz 5 ?_;refine Lh (Zd (Lh (Zd (dh (Jr (Cu (i:=1) rfl rfl c27 rfl (Eb (A:=some ⟨b2,0,none⟩) (o:=0) (k:=1) rfl)) ?_)))));refine Jqf (Bt fb X G hG) (by show owns (flk fb X G)++[]=[];rw[(Gf hG).owns];rfl) (ag (au 2 rfl) (af _)) ?_;rintro _ _ ⟨rfl,rfl⟩;refine⟨rfl,?_⟩;refine Jr (Rd.makeFunc rfl rfl rfl) ?_;refine Jvf (aTv b2 b3 s o fb X G hG hl ho) (by show owns (flk fb X G)++[]=[];rw[(Gf hG).owns];rfl) (ag (au 1 rfl) (ag (au 0 rfl) (ag (au 2 rfl) (af _)))) ?_;refine Jz 7 ?_;refine Eo (.inl rfl) Tryz.results30 rfl rfl ?_;rfl
theorem aSj(A:OA)(q:Nat)(l:List Vr)(hl:l.length≤1000000):
    Bg Tryz.prog 68 [vs A l q] [ros Hg A l] (fun v Γ'=>∃B p,v=vs B l p∧Γ'=[rows Hg 92 3 B p l]):=by
 refine Ba Tryz.func68 Tryz.ntmps68 fun w0=>?_;refine Jz 9 ?_;refine Jr (Cn (v':= .bool A.isNone) rfl (bS (A:=A) rfl Tryz.underlying88 rfl rfl)) ?_;refine Jn (Jt (Ej rfl (fun c4=>?_) (fun c4=>?_)));refine Js (kU (p:=l=[]) (fun w hw=>eZ zF de c4 0 rfl hw) (fun hl0=>?_));subst hl0;refine Dv (enc:=Hg) (e:=92) (size:=3) (Jz 6 ?_);refine Em [0] rfl (bv Tryz.results68 ?_);exact⟨_,_,rfl,rfl⟩;refine Jz 4 ?_;refine Jmk rfl rfl rfl (Vi (enc:=Hg) rfl s88) ?_;rintro _ _ ⟨A5,rfl,rfl⟩;refine Jm ?_;refine Jge rfl rfl rfl (Jf zF (i:=0) (m:=l) rfl s88 rfl rfl rfl (uJ (i:=1) rfl) om om) ?_;rintro _ _ ⟨A7,q7,rfl,rfl⟩;refine Jz 4 ?_;refine Em [0] rfl (bv Tryz.results68 ?_);exact⟨_,_,rfl,rfl⟩
theorem aTc(fb:Nat)(X:FB)(G:List Ad)(hG:Lax G)(k:Nat)(x:Cm)(hx:X.F.comps[k]?=some x)(hvl:x.vars.length≤1000):
    Bg Tryz.prog 36 [pv fb,nv k] [all (flk fb X G)] (fun v Γ'=>∃(B:OA) (p:Nat),v=vs B x.vars p∧Γ'=[rows Hg 92 3 B p x.vars]):=by
 refine Ba Tryz.func36 Tryz.ntmps36 fun w0=>?_;refine Jz 6 ?_;refine bz 0 rfl (ros Hg x.Av x.vars) rfl (pM _ (Dg hx _ (Kj (k:=eX)))) (Jz 3 ?_);refine Jqf (Wq fb X G hG k x hx) (by show owns (flk fb X G)++[]=[];rw[(Gf hG).owns];rfl) (ag (au 1 rfl) (af _)) ?_;rintro _ _ ⟨rfl,rfl⟩;refine⟨rfl,?_⟩;refine Jr (Rt (vs:=(cX x [])) rfl Tryz.underlying107 rfl Tryz.underlying88 rfl rfl rfl) ?_;refine Jqf (aSj x.Av x.qv x.vars om) rfl (ag (au 0 rfl) (af _)) ?_;rintro _ _ ⟨Bn,pn,rfl,rfl⟩;refine⟨rfl,?_⟩;refine Jz 4 ?_;refine Ck (Cr (bv Tryz.results36 ?_));exact⟨_,_,rfl,rfl⟩
theorem aSk(fb:Nat)(X:FB)(G:List Ad)(hG:Lax G)(c:Int)(hc:c<0∨(X.F.comps.length:Int)≤c):
    Bg Tryz.prog 36 [pv fb,iv c] [all (flk fb X G)] (fun v Γ'=>∃(B:OA) (p:Nat),v= .slice B ([]:List Vr).length p∧Γ'=[rows Hg 92 3 B p ([]:List Vr)]):=by
 refine Ba Tryz.func36 Tryz.ntmps36 fun w0=>?_;refine Jz 6 ?_;refine Dv (enc:=Hg) (e:=92) (size:=3) (Dt (Jz 3 ?_));refine Jqf (IE fb X G hG c hc) (by show owns (flk fb X G)++[]=[];rw[(Gf hG).owns];rfl) (ag (au 1 rfl) (af _)) ?_;rintro _ _ ⟨rfl,rfl⟩;refine⟨rfl,?_⟩;refine Jr (Rt (vs:=[.string nE,nz,nz]) rfl Tryz.underlying107 rfl Tryz.underlying88 rfl rfl rfl) ?_;refine Jqf (aSj none 0 [] om) rfl (ag (au 0 rfl) (af _)) ?_;rintro _ _ ⟨Bn,pn,rfl,rfl⟩;refine⟨rfl,?_⟩;refine Jz 4 ?_;refine Ck (Cr (bv Tryz.results36 ?_));exact⟨_,_,rfl,rfl⟩
theorem aTw(b c:Nat)(s:yB)(j:Nat)(x:Cm)(y:Vr)(hy:x.vars[j]?=some y):
    Bg Tryz.prog 69 [nv j,pv b,pv c] [ro (some ⟨b,0,none⟩) [vs x.Av x.vars x.qv],ro (some ⟨c,0,none⟩) [.string s],ros Hg x.Av x.vars] (fun v _=>v= .bool (decide (y.name=s))):=by
 have hjl:j<x.vars.length:=(aOz.1 hy).1;refine Ba Tryz.func69 Tryz.ntmps69 fun w0=>?_;refine Jz 6 ?_;refine Jfw [] [1,100,102,3,104,105,6,7] (af _) ?_;refine Wt ?_;refine Ld rfl (Cu (i:=0) rfl rfl c88 rfl (Eb (A:=some ⟨b,0,none⟩) (o:=0) (k:=1) rfl)) ?_;refine Jz 3 ?_;refine Ld rfl (Cu (i:=1) rfl rfl c9 rfl (Eb (A:=some ⟨c,0,none⟩) (o:=0) (k:=1) rfl)) ?_;refine di rfl (Ky rfl rfl rfl) ?_;refine Jz 4 ?_;refine bv Tryz.results69 ?_;rfl
theorem aTx(b c:Nat)(x:Cm)(s:yB)(o:oP Nat)(hl:x.vars.length≤1000)(ho:ixF s 0 (x.vars.map Vr.name)=o):
    Bg Tryz.prog 64 [nv x.vars.length, .func (.func 69) #[] #[pv b,pv c]] [ro (some ⟨b,0,none⟩) [vs x.Av x.vars x.qv],ro (some ⟨c,0,none⟩) [.string s],ros Hg x.Av x.vars] (fun v _=>v= .tuple #[nv (o.getD 0), .bool o.isSome]):=by
 refine Ba Tryz.func64 Tryz.ntmps64 fun w0=>?_;refine Jz 14 ?_;refine Jh (fun u g mz ρ Γ=>∃(j:Nat),ρ=[u 1,u 7,(8,nv j)]∧Γ=[g 0,g 1,g 2]∧mz=x.vars.length-j∧(j≤x.vars.length)∧(ixF s j ((x.vars.map Vr.name).drop j)=o)) ⟨⟨0,rfl,rfl,rfl,om,ho⟩,sb⟩ ?_;rintro mz _ _ ⟨j,rfl,rfl,rfl,hj,ho⟩;refine Jz 6 ?_;refine ax rfl ?_ ?_<;>intro k9;obtain⟨y,hy⟩:=bq x.vars j om;refine Jz 14 ?_;refine JcV rfl rfl rfl (dn (first:=[]) (captured:=[pv b,pv c]) rfl rfl rfl (kc.h 69 rfl)) (aTw b c s j x y hy) rfl (ag (au 0 rfl) (ag (au 1 rfl) (ag (au 2 rfl) (af _)))) (Jn (Jt (ax rfl (fun k13=>?_) (fun k13=>?_))));refine Jz 13 ?_;refine Eo (.inl rfl) Tryz.results64 rfl rfl ?_;rw[show o=some j from by rw[←ho];exact GI (by rw[aPs,hy,←k13];rfl)];rfl;refine Jz 8 ?_;refine Db ⟨⟨j+1,rfl,rfl,rfl,om,(by rw[←VQ (x:=y.name) (by rw[aPs,hy];rfl) k13];exact ho)⟩,sb⟩;refine Jz 12 ?_;refine Eo (.inl rfl) Tryz.results64 rfl rfl ?_;rw[show o=none from by rw[←ho];exact GJ (by rw[aPg];omega)];rfl
theorem aTy(g:vU):
    Bg Tryz.prog 64 [iv 0,g] [] (fun v Γ'=>v= .tuple #[iv 0,bf]∧Γ'=[]):=by
 refine Ba Tryz.func64 Tryz.ntmps64 fun w0=>?_;refine Jz 14 ?_;refine Jh (fun s g mz ρ Γ=>ρ=[s 7,s 8]∧Γ=[]∧mz=0) ⟨⟨rfl,rfl,rfl⟩,sb⟩ ?_;rintro mz _ _ ⟨rfl,rfl,rfl⟩;refine Jz 19 ?_;refine Eo (.inl rfl) Tryz.results64 rfl rfl ?_;exact⟨rfl,rfl⟩
theorem aSq(fb:Nat)(X:FB)(G:List Ad)(hG:Lax G)(k:Nat)(x:Cm)(hx:X.F.comps[k]?=some x)(s:yB)(o:oP Nat)(hl:x.vars.length≤1000)(ho:ixF s 0 (x.vars.map Vr.name)=o):
    Bg Tryz.prog 37 [pv fb,nv k, .string s] [all (flk fb X G)] (fun v _=>v= .tuple #[nv (o.getD 0), .bool o.isSome]):=by
 refine Ba Tryz.func37 Tryz.ntmps37 fun w0=>?_;refine Js (dh (Jbo fun b5=>?_));refine Jz 8 ?_;refine Jqf (Wq fb X G hG k x hx) (by show owns (flk fb X G)++[]=[];rw[(Gf hG).owns];rfl) (ag (au 1 rfl) (af _)) ?_;rintro _ _ ⟨rfl,rfl⟩;refine⟨rfl,?_⟩;refine Jr (Rt (vs:=(cX x [])) rfl Tryz.underlying107 rfl Tryz.underlying88 rfl rfl rfl) ?_;refine ay fun b8=>?_;refine Jz 4 ?_;refine Lh (Zd (Lh (Zd (bz 2 rfl (ros Hg x.Av x.vars) rfl (pM _ (Dg hx _ (Kj (k:=eX)))) (dh (Jr (Cu (i:=1) rfl rfl c88 rfl (Eb (A:=some ⟨b8,0,none⟩) (o:=0) (k:=1) rfl)) ?_))))));refine Jz 1 ?_;refine Jr (Rd.makeFunc rfl rfl rfl) ?_;refine Jvf (aTx b8 b5 x s o hl ho) rfl (ag (au 1 rfl) (ag (au 2 rfl) (ag (au 0 rfl) (af _)))) ?_;refine Jz 7 ?_;refine Eo (.inl rfl) Tryz.results37 rfl rfl ?_;rfl
theorem aSr(fb:Nat)(X:FB)(G:List Ad)(hG:Lax G)(c:Int)(hc:c<0∨(X.F.comps.length:Int)≤c)(s:yB):
    Bg Tryz.prog 37 [pv fb,iv c, .string s] [all (flk fb X G)] (fun v _=>v= .tuple #[iv 0,bf]):=by
 refine Ba Tryz.func37 Tryz.ntmps37 fun w0=>?_;refine Js (dh (Jbo fun b5=>?_));refine Jz 8 ?_;refine Jqf (IE fb X G hG c hc) (by show owns (flk fb X G)++[]=[];rw[(Gf hG).owns];rfl) (ag (au 1 rfl) (af _)) ?_;rintro _ _ ⟨rfl,rfl⟩;refine⟨rfl,?_⟩;refine Jr (Rt (vs:=[.string nE,nz,nz]) rfl Tryz.underlying107 rfl Tryz.underlying88 rfl rfl rfl) ?_;refine ay fun b8=>?_;refine Jz 7 ?_;refine Jr (Rd.makeFunc rfl rfl rfl) ?_;refine Jvf ((aTy (.func (.func 69) #[] #[pv b8,pv b5])).mono fun _ _ h=>h.1) rfl ((af _)) ?_;refine Jz 7 ?_;refine Eo (.inl rfl) Tryz.results37 rfl rfl ?_;rfl
theorem vR{s:yB}:∀{l:List yB} {i k:Nat},l[i]?=some s→l.Nodup→ixF s k l=some (k+i)
 |[],i,k,h,_=>by cases h
 | a::r,0,k,h,_=>by
   have e:a=s:=aPq h;show(if a=s then some k else _)=_;rw[aPr e];rfl
 | a::r,i+1,k,h,hn=>by
   have h':r[i]?=some s:=h;have hm:=av h';have hn':=List.nodup_cons.1 hn;show(if a=s then some k else ixF s (k+1) r)=_;rw[aPf (fun e=>hn'.1 (by rw[e];exact hm)),vR h' hn'.2,Nat.add_right_comm,Nat.add_assoc]
abbrev sZZ:yB:=fT [122,122]
theorem aTd{α:Type}(f:Nat→yB)(g:α→yB)(l:List α)(h:∀i x,l[i]?=some x→g x=f i):l.map g=(List.range l.length).map f:=by
 apply List.ext_getElem?;intro i;rw[aPs,aPs];by_cases hi:i<l.length
 · rw[List.getElem?_range hi,gge hi]
   show some (g l[i])=some (f i);rw[h i l[i] (gge hi)]
 ·rw[List.getElem?_eq_none om,List.getElem?_eq_none (by rw[List.length_range];omega)];rfl
section
variable{F:Fl}
theorem aTj(h:Ji F.pure):(F.comps.map Cm.name).Nodup∧sZZ∉F.comps.map Cm.name:=by
 obtain⟨ars,har,hl,hc⟩:=h.comps;have hX:=Sm h;have e:=aTd nC Cm.name F.comps (fun i x hx=>(hc i x.pure (by show(F.comps.map Cm.pure)[i]?=_;rw[aPs,hx];rfl)).name);rw[e];have h1:=hX.comps1;have h3:=hX.comps;generalize F.comps.length=n at h1 h3⊢;have:n=1∨n=2∨n=3:=om;rcases this with rfl|rfl|rfl<;>decide+kernel
theorem aTk(h:Ji F.pure):(F.flags.map Fg.name).Nodup∧sZZ∉F.flags.map Fg.name:=by
 have e:F.flags.map Fg.name=nms 102 F.flags.length:=h.flags.2;have h2:F.flags.length≤2:=h.flags.1;rw[e];generalize F.flags.length=n at h2⊢;have:n=0∨n=1∨n=2:=om;rcases this with rfl|rfl|rfl<;>decide+kernel
theorem aTl(h:Ji F.pure){k:Nat}{x:Cm}(hx:F.comps[k]?=some x):(x.vars.map Vr.name).Nodup∧sZZ∉x.vars.map Vr.name:=by
 obtain⟨ars,har,hl,hc⟩:=h.comps;obtain⟨ints,tables,ar,hi,ht,_,hv,_⟩:=(hc k x.pure (by show(F.comps.map Cm.pure)[k]?=_;rw[aPs,hx];rfl)).vers;have hv:x.vars=varsOf ints tables:=hv;rw[hv];have h1:ints=1∨ints=2∨ints=3:=om;have h2:tables=0∨tables=1:=om;rcases h1 with rfl|rfl|rfl<;>rcases h2 with rfl|rfl<;>decide+kernel
theorem aUg(h:Ji F.pure){k:Nat}{x:Cm}(hx:F.comps[k]?=some x){j:Nat}{y:Vr}(hy:x.vars[j]?=some y):y.ty≤3:=by
 obtain⟨ars,har,hl,hc⟩:=h.comps;obtain⟨ints,tables,ar,hi,ht,_,hv,_⟩:=(hc k x.pure (by show(F.comps.map Cm.pure)[k]?=_;rw[aPs,hx];rfl)).vers;have hv:x.vars=varsOf ints tables:=hv;have hm:=av hy;rw[hv]at hm;unfold varsOf at hm;simp only[aQp,aPx,aPj,List.mem_range]at hm;rcases hm with(⟨a,_,rfl⟩|rfl)|⟨a,_,rfl⟩<;>simp
variable{X:FB}
theorem aSm(e:X.F.pure=F.pure):X.F.comps.map Cm.name=F.comps.map Cm.name:=by
 have h1:(X.F.comps.map Cm.pure).map PC.name=(F.comps.map Cm.pure).map PC.name:=by rw[show X.F.comps.map Cm.pure=F.comps.map Cm.pure from aPe PF.comps e]
 rw[aRt,aRt]at h1;exact h1
theorem aSy(e:X.F.pure=F.pure):X.F.comps.length=F.comps.length:=by
 have:=aPe List.length (aSm e);rwa[aPg,aPg]at this
theorem Bw(e:X.F.pure=F.pure):X.F.flags=F.flags:=aPe PF.flags e
end
section
theorem aSz{X:FB}{F:Fl}(hX:X.F.pure=F.pure)(hF:Ji F.pure):X.F.comps.length≤1000∧X.F.flags.length≤1000:=by
 have h:=Sm hF;have h1:=h.comps;have h2:=h.flags;rw[aSy hX,Bw hX];omega
theorem aTm(fb:Nat)(X:FB)(G:List Ad)(hG:Lax G)(F:Fl)(hX:X.F.pure=F.pure)(hF:Ji F.pure)(k:Nat)(x:Cm)(hx:F.comps[k]?=some x):Bg Tryz.prog 33 [pv fb, .string x.name] [all (flk fb X G)] (fun v _=>v= .tuple #[nv k,bt]):=by
 have h:=aSo fb X G hG x.name (some k) (aSz hX hF).1 (by rw[aSm hX,vR (i:=k) (by rw[aPs,hx];rfl) (aTj hF).1,aQl]);exact h
theorem aTe(fb:Nat)(X:FB)(G:List Ad)(hG:Lax G)(F:Fl)(hX:X.F.pure=F.pure)(hF:Ji F.pure):Bg Tryz.prog 33 [pv fb, .string sZZ] [all (flk fb X G)] (fun v _=>v= .tuple #[iv 0,bf]):=aSo fb X G hG sZZ none (aSz hX hF).1 (by rw[aSm hX];exact Lt (aTj hF).2)
theorem aTn(fb:Nat)(X:FB)(G:List Ad)(hG:Lax G)(F:Fl)(hX:X.F.pure=F.pure)(hF:Ji F.pure)(k:Nat)(x:Fg)(hx:F.flags[k]?=some x):Bg Tryz.prog 30 [pv fb, .string x.name] [all (flk fb X G)] (fun v _=>v= .tuple #[nv k,bt]):=
 aSp fb X G hG x.name (some k) (aSz hX hF).2 (by rw[Bw hX,vR (i:=k) (by rw[aPs,hx];rfl) (aTk hF).1,aQl])
theorem aTf(fb:Nat)(X:FB)(G:List Ad)(hG:Lax G)(F:Fl)(hX:X.F.pure=F.pure)(hF:Ji F.pure):Bg Tryz.prog 30 [pv fb, .string sZZ] [all (flk fb X G)] (fun v _=>v= .tuple #[iv 0,bf]):=aSp fb X G hG sZZ none (aSz hX hF).2 (by rw[Bw hX];exact Lt (aTk hF).2)
theorem aTz(fb:Nat)(X:FB)(G:List Ad)(hG:Lax G)(F:Fl)(hX:X.F.pure=F.pure)(hF:Ji F.pure)(k:Nat)(x:Cm)(hx:F.comps[k]?=some x)(j:Nat)(y:Vr)(hy:x.vars[j]?=some y):Bg Tryz.prog 37 [pv fb,nv k, .string y.name] [all (flk fb X G)] (fun v _=>v= .tuple #[nv j,bt]):=by
 obtain⟨x',h1,h2⟩:=XQ hX hx;have h3:x'.vars=x.vars:=aPe PC.vars h2;exact aSq fb X G hG k x' h1 y.name (some j) (by rw[h3];exact((wW hF).at_ hx).1) (by rw[h3,vR (i:=j) (by rw[aPs,hy];rfl) (aTl hF hx).1,aQl])
theorem aTo(fb:Nat)(X:FB)(G:List Ad)(hG:Lax G)(F:Fl)(hX:X.F.pure=F.pure)(hF:Ji F.pure):Bg Tryz.prog 37 [pv fb,iv 0, .string sZZ] [all (flk fb X G)] (fun v _=>v= .tuple #[iv 0,bf]):=by
 have hl:=(Sm hF).comps1;obtain⟨x,hx⟩:∃x,F.comps[0]?=some x:=⟨_,gge (show 0<F.comps.length by omega)⟩
 obtain⟨x',h1,h2⟩:=XQ hX hx;have h3:x'.vars=x.vars:=aPe PC.vars h2;exact aSq fb X G hG 0 x' h1 sZZ none (by rw[h3];exact((wW hF).at_ hx).1) (by rw[h3];exact Lt (aTl hF hx).2)
theorem aTp(fb:Nat)(X:FB)(G:List Ad)(hG:Lax G)(F:Fl)(hX:X.F.pure=F.pure)(hF:Ji F.pure)(k:Nat)(x:Cm)(hx:F.comps[k]?=some x):Bg Tryz.prog 34 [pv fb,nv k] [all (flk fb X G)] (fun v _=>v= .string x.name):=by
 obtain⟨x',h1,h2⟩:=XQ hX hx;have h:=(tO fb X G hG (k:Int)).mono fun _ _ h=>h.1;rw[Sy h1,show x'.name=x.name from aPe PC.name h2]at h;exact h
theorem aTq(fb:Nat)(X:FB)(G:List Ad)(hG:Lax G)(F:Fl)(hX:X.F.pure=F.pure)(hF:Ji F.pure)(k:Nat)(x:Cm)(hx:F.comps[k]?=some x):Bg Tryz.prog 35 [pv fb,nv k] [all (flk fb X G)] (fun v _=>v=nv x.vers.length):=by
 obtain⟨x',h1,h2⟩:=XQ hX hx;have h:=(mR fb X G hG (k:Int)).mono fun _ _ h=>h.1;have hl:x'.vers.length=x.vers.length:=by
  have h3:x'.vers.map Vs.pure=x.vers.map Vs.pure:=aPe PC.vers h2;have:=aPe List.length h3;rwa[aPg,aPg]at this
 rw[Sy h1,hl]at h;exact h
theorem aSs(fb:Nat)(X:FB)(G:List Ad)(hG:Lax G)(F:Fl)(hX:X.F.pure=F.pure)(hF:Ji F.pure)(k:Nat)(x:Cm)(hx:F.comps[k]?=some x):Bg Tryz.prog 36 [pv fb,nv k] [all (flk fb X G)] (fun v Γ'=>∃(B:OA) (p:Nat),v=vs B x.vars p∧Γ'=[rows Hg 92 3 B p x.vars]):=by
 obtain⟨x',h1,h2⟩:=XQ hX hx;have h3:x'.vars=x.vars:=aPe PC.vars h2;have h:=aTc fb X G hG k x' h1 (by rw[h3];exact((wW hF).at_ hx).1);rw[h3]at h;exact h
theorem aUa(fb:Nat)(X:FB)(G:List Ad)(hG:Lax G)(F:Fl)(hX:X.F.pure=F.pure)(hF:Ji F.pure)(k:Nat)(x:Fg)(hx:F.flags[k]?=some x):Bg Tryz.prog 31 [pv fb,nv k] [all (flk fb X G)] (fun v _=>v= .string x.name):=by
 have h:=(Bc fb X G hG (k:Int)).mono fun _ _ h=>h.1;rw[aSl (x:=x) (by rw[Bw hX];exact hx)]at h;exact h
theorem aUb(fb:Nat)(X:FB)(G:List Ad)(hG:Lax G)(F:Fl)(hX:X.F.pure=F.pure)(hF:Ji F.pure)(k:Nat)(x:Fg)(hx:F.flags[k]?=some x):Bg Tryz.prog 32 [pv fb,nv k] [all (flk fb X G)] (fun v _=>v= .bool x.init):=by
 have h:=(Br fb X G hG (k:Int)).mono fun _ _ h=>h.1;rw[aSl (x:=x) (by rw[Bw hX];exact hx)]at h;exact h
end
end Go.Proofs.YtihgdnjkofpgiaaGreatDoor
namespace Go.Sep
open Go.RowKit Go.Flow Go.Mem
variable{P:pG}{o:Oper}{ρ:Bo}{Γ:List Ad}{x y:Operand}
theorem aTr{X:Array vU}(d:Nat)(w:wD):∀(fs:List Field),(∀f∈fs,f.name≠ "_" ∧∃v,(part f.type X f.offset).run P w= .ok v w∧(Op.equalIn (d+1) f.type v v).run P w= .ok true w)→(Op.eqFields (d+1) X X fs).run P w= .ok true w
 |[],_=>by simp[Op.eqFields]
 | f::fs,h=>by
   obtain⟨hn,v,p1,p2⟩:=h f (aPc ..);have ih:=aTr d w fs fun g hg=>h g (aPb _ hg);simp only[Op.eqFields,hn,ne_eq,not_false_eq_true,if_true,aQm,p1,aQf,p2,Sem.run_ite];simp[ih]
theorem aSw{K t':tI}{xs:Array vU}(ho:o.op= .binOp .neq K x y t')(hx:ev ρ x=some (.agg xs))(hy:ev ρ y=some (.agg xs))(hg:P.eqGuardType P.depth K=false)(he:∀w,(Op.equalIn 10000 K (.agg xs) (.agg xs)).run P w= .ok true w):Rd P o ρ Γ (bf):=fw ho hx hy fun w=>by
 have g:(eqGuard .neq K x y (.agg xs) (.agg xs)).run P w= .ok () w:=run_eqGuard_agg w .neq K x y _ _ hg;have h:(binOp .neq K (.agg xs) (.agg xs)).run P w= .ok (bf) w:=by
  rw[run_neq_struct,he w];rfl
 simp[g,h]
end Go.Sep
namespace Go.Proofs.YtihgdnjkofpgiaaGreatDoor
open Go.RowKit Go.Flow Go.Mem Go.Sep
theorem aUc(s:yB)(a b:Int)(w:wD):(Op.equalIn 10000 92 (.agg #[.string s,ui a,iv b]) (.agg #[.string s,ui a,iv b])).run Tryz.prog w= .ok true w:=by
 rw[run_equalIn_struct w 9999 92 _ _ kr kr];refine aTr 9998 w _ fun f hf=>?_;have hfs:(Tryz.prog.fieldsOf 92).toList.map (fun f=>(f.name,f.type,f.offset))=[("Name",9,0),("Type",90,1),("Init",2,2)]:=by kernel_rfl
 have hm:(f.name,f.type,f.offset)∈[("Name",9,0),("Type",90,1),("Init",2,2)]:=by rw[←hfs];exact aPx.2 ⟨f,hf,rfl⟩
 simp only[aPi,aPm,aQo,Prod.mk.injEq]at hm;rcases hm with⟨h1,h2,h3⟩|⟨h1,h2,h3⟩|⟨h1,h2,h3⟩
 · refine⟨by rw[h1];decide, .string s,?_,?_⟩<;>rw[h2]
   ·rw[h3];simp[part,isAgg,run_underlying Tryz.underlying9]
   ·rw[run_equalIn_string w 9998 _ _ _ Tryz.underlying9];simp
 · refine⟨by rw[h1];decide,ui a,?_,?_⟩<;>rw[h2]
   ·rw[h3];simp[part,isAgg,run_underlying Tryz.underlying90]
   ·rw[run_equalIn_int w 9998 _ .u8 .u8 _ _ Tryz.underlying90];simp
 · refine⟨by rw[h1];decide,iv b,?_,?_⟩<;>rw[h2]
   ·rw[h3];simp[part,isAgg,run_underlying Tryz.underlying2]
   ·rw[run_equalIn_int w 9998 _ .i64 .i64 _ _ Tryz.underlying2];simp
end Go.Proofs.YtihgdnjkofpgiaaGreatDoor
namespace Go.Proofs
open Go.Shelf
def pU:Go.Shelf.Ren:=⟨fun|129=>152|n=>n,fun|53=>268|3=>3|4=>4|46=>215|5=>5|9=>9|n=>n,fun|n=>n⟩
theorem aSn:Go.Proofs.Lays.n129 Tryz.prog pU:={
 mixed:=by kernel_rfl
 f129:=Tryz.func152.trans (congrArg some (by kernel_rfl))
 t3:=Tryz.underlying3
 a3:=Tryz.isAgg3
 z3:=Tryz.sizeOf3
 v3:=Tryz.zeroValue3
 t4:=Tryz.underlying4
 a4:=Tryz.isAgg4
 z4:=Tryz.sizeOf4
 v4:=Tryz.zeroValue4
 t5:=Tryz.underlying5
 a5:=Tryz.isAgg5
 z5:=Tryz.sizeOf5
 v5:=Tryz.zeroValue5
 t9:=Tryz.underlying9
 a9:=Tryz.isAgg9
 z9:=Tryz.sizeOf9
 v9:=Tryz.zeroValue9
 t46:=Tryz.underlying215
 a46:=Tryz.isAgg215
 z46:=Tryz.sizeOf215
 v46:=Tryz.zeroValue215
 t53:=Tryz.underlying268
 a53:=Tryz.isAgg268
 z53:=Tryz.sizeOf268
 v53:=Tryz.zeroValue268}
theorem Tryz.bits_Len64(x:Int)(w:World)(h0:0≤x)(h1:x≤18446744073709551615):
    Calls Tryz.prog 152 #[.int .u64 x] w fun e w'=>e= .returned (.int .i64 (Lib.bitLen x.toNat))∧w'=w:=Any.bits_Len64 aSn x w h0 h1
end Go.Proofs
namespace Go.Proofs.YtihgdnjkofpgiaaGreatDoor
open Go.RowKit Go.Flow Go.Mem Go.Sep Go.In
open Go.In
theorem aTg:Bg Tryz.prog 152 [xi 0] [] (fun v Γ'=>v=iv 0∧Γ'=[]):=Bg.bare (Bg.mono (R:=fun v _=>v=iv (Lib.bitLen (0:Int).toNat)) (fun w hs=>(Tryz.bits_Len64 0 w om om).mono fun e w' h=>by
 obtain⟨rfl,rfl⟩:=h;exact⟨_,_,rfl,rfl,Dk.refl hs⟩) fun v _ h=>by rw[h];have e:Lib.bitLen 0=0:=(by first|decide+kernel|(unfold Lib.bitLen;simp)|rfl|simp[Lib.bitLen]);show nv (Lib.bitLen 0)=_;rw[e];rfl)
theorem aUd:
    Bg Tryz.prog 102 [xi 0] [] (fun v Γ'=>v=iv 0∧Γ'=[]):=by
 refine Ba Tryz.func102 Tryz.ntmps102 fun w0=>?_;refine Jz 12 ?_;refine Jqf (aTg) rfl (af _) ?_;rintro _ _ ⟨rfl,rfl⟩;refine⟨rfl,?_⟩;refine Jz 4 ?_;refine bv Tryz.results102 ?_;exact⟨rfl,rfl⟩
theorem aUe:
    Bg Tryz.prog 142 [nz,iv 0,iv 0] [] (fun v Γ'=>v= .tuple #[]∧Γ'=[]):=by
 refine Ba Tryz.func142 Tryz.ntmps142 fun w0=>?_;refine Jz 3 ?_;refine Jr (Im rfl rfl rfl om) ?_;refine Jz 4 ?_;refine Jh (fun s g mz ρ Γ=>ρ=[s 0,s 1,s 2,s 6]∧Γ=[]∧mz=0) ⟨⟨rfl,rfl,rfl⟩,sb⟩ ?_;rintro mz _ _ ⟨rfl,rfl,rfl⟩;refine Jz 13 ?_;refine Dx (.inr rfl) Tryz.results142 ?_;exact⟨rfl,rfl⟩
theorem aUf(m:Int):
    Bg Tryz.prog 101 [nz,iv 0,iv 0,iv m] [] (fun v Γ'=>v= .tuple #[]∧Γ'=[]):=by
 refine Ba Tryz.func101 Tryz.ntmps101 fun w0=>?_;refine Jz 11 ?_;refine Jh (fun s g mz ρ Γ=>ρ=[s 0,s 1,s 2,s 3,s 8,s 9]∧Γ=[]∧mz=0) ⟨⟨rfl,rfl,rfl⟩,sb⟩ ?_;rintro mz _ _ ⟨rfl,rfl,rfl⟩;refine Jz 5 ?_;refine Jr (Ev rfl rfl rfl om) ?_;refine Jz 10 ?_;refine ax rfl ?_ ?_<;>intro k23;refine Jz 5 ?_;refine Jqf (aUe) rfl (af _) ?_;rintro _ _ ⟨rfl,rfl⟩;refine⟨rfl,?_⟩;refine Jz 7 ?_;refine Dx (.inl rfl) Tryz.results101 ?_;exact⟨rfl,rfl⟩
 first|exact aPu c23 om|exact aPu k23 om|exact aPu g23 om
theorem aTs:
    Bg Tryz.prog 61 [nz] [] (fun v Γ'=>v= .tuple #[]∧Γ'=[]):=by
 refine Ba Tryz.func61 Tryz.ntmps61 fun w0=>?_;refine Jz 11 ?_;refine Jr (Km rfl rfl Tryz.underlying3 Tryz.underlying215 (aUh om)) ?_;refine Jqf (aUd) rfl (af _) ?_;rintro _ _ ⟨rfl,rfl⟩;refine⟨rfl,?_⟩;refine Jqf (aUf 0) rfl (af _) ?_;rintro _ _ ⟨rfl,rfl⟩;refine⟨rfl,?_⟩;refine Jn (Dx (.inr rfl) Tryz.results61 ?_);exact⟨rfl,rfl⟩
theorem aSt:
    Bg Tryz.prog 62 [nz] [] (fun v Γ'=>v= .slice none 0 0∧Γ'=[]):=by
 refine Ba Tryz.func62 Tryz.ntmps62 fun w0=>?_;refine Jz 22 ?_;refine bv Tryz.results62 ?_;exact⟨rfl,rfl⟩
open Go.RowKit Go.Flow Go.Mem Go.Sep Go.In
theorem aSh(fb:Nat)(X:FB)(G:List Ad)(hG:Lax G)(c:Int)(hc:c<0∨(X.F.comps.length:Int)≤c):
    Bg Tryz.prog 26 [pv fb,iv c] [all (flk fb X G)] (fun v Γ'=>v= .slice none 0 0∧Γ'=[]):=by
 refine Ba Tryz.func26 Tryz.ntmps26 fun w0=>?_;refine Jz 15 ?_;refine Jqf (IE fb X G hG c hc) (by show owns (flk fb X G)++[]=[];rw[(Gf hG).owns];rfl) (ag (au 0 rfl) (af _)) ?_;rintro _ _ ⟨rfl,rfl⟩;refine⟨rfl,?_⟩;refine Jr (Rt (vs:=[.string nE,nz,nz]) rfl Tryz.underlying107 rfl Tryz.underlying105 rfl rfl rfl) ?_;refine Jz 5 ?_;refine Bz (fun s g mz ρ Γ=>ρ=[s 0,s 5,s 13,s 14,s 15]∧Γ=[]∧mz=0) ⟨⟨rfl,rfl,rfl⟩,sb⟩ ?_;rintro mz _ _ ⟨rfl,rfl,rfl⟩;refine Jz 15 ?_;refine Jqf (aTs) rfl (af _) ?_;rintro _ _ ⟨rfl,rfl⟩;refine⟨rfl,?_⟩;refine Jz 5 ?_;refine Jqf (aSt) rfl (af _) ?_;rintro _ _ ⟨rfl,rfl⟩;refine⟨rfl,?_⟩;refine Jz 4 ?_;refine bv Tryz.results26 ?_;exact⟨rfl,rfl⟩
theorem aSx(p:Pl)(hp:p.Ok)(c v:Int):
    Bg Tryz.prog 7 [.agg (cL p []).toArray,iv c,iv v] [all p.kids,gAc,glc,p10c,Fx,Uf] (fun v _=>v=bt):=by
 refine Ba Tryz.func7 Tryz.ntmps7 fun w0=>?_;refine Js (dh (Jbo fun b3=>?_));refine Jz 6 ?_;refine Jvf (pR) rfl (ag (au 2 rfl) (ag (au 3 rfl) (ag (au 4 rfl) (ag (au 5 rfl) (ag (au 6 rfl) (af _)))))) ?_;refine Jz 9 ?_;refine az [1,2,2,2,2] (wV p hp) ?_;rintro _ _ ⟨F,fb,X,A,q,ps,rfl,rfl,hG,hXC,hXp,F',hF',hP⟩;refine Jz 3 ?_;refine ay fun b8=>?_;refine Jz 6 ?_;have hFc:F.comps.length≤3:=(Sm hG).comps;have hFf:F.flags.length≤2:=(Sm hG).flags;have hcl:=aSy hXp;have hfl:=Bw hXp;have hG':Ji F'.pure:=by rw[hF'];exact hG
 have hPX:PgX X (pgk X.pb A q ps) A q ps:=aDt hG' hP;refine Jfw [] [0,1,2,3,5,304,106,7,8,9,10,11,13,312,114,15,16,17] (af _) ?_;refine Wt ?_;refine di rfl (Fh rfl Tryz.underlying27 rfl rfl) ?_;refine Jz 3 ?_;refine bQ rfl rfl rfl rfl .fc ((Wp fb X (pgk X.pb A q ps) (Lb _ _ _ _)).mono fun _ _ h=>h.1) (by show owns (flk fb X (pgk X.pb A q ps))++[]=[];rw[(Gf (Lb _ _ _ _)).owns];rfl) (ag (au 1 rfl) (af _)) ?_;refine Jz 2 ?_;refine di rfl (Cn (v':=bf) (by simp[hcl]) (Rd.neq rfl rfl rfl)) ?_;refine Jz 4 ?_;refine bQ rfl rfl rfl rfl .fc ((Bt fb X (pgk X.pb A q ps) (Lb _ _ _ _)).mono fun _ _ h=>h.1) (by show owns (flk fb X (pgk X.pb A q ps))++[]=[];rw[(Gf (Lb _ _ _ _)).owns];rfl) (ag (au 1 rfl) (af _)) ?_;refine Jz 2 ?_;refine di rfl (Cn (v':=bf) (by simp[hfl]) (Rd.neq rfl rfl rfl)) ?_;refine Jz 8 ?_;refine bz 2 rfl (ros Gh F.Af F.flags) rfl (Nh (k:=eR)) (Jz 8 ?_);refine Bz (fun s g mz ρ Γ=>∃(k:Nat),ρ=[s 1,s 2,s 7,s 8,s 55,s 56,(57,nv k)]∧Γ=[g 2,g 3,g 1,g 0]∧mz=F.flags.length-k∧(k≤F.flags.length)) ⟨⟨0,rfl,rfl,rfl,om⟩,sb⟩ ?_;rintro mz _ _ ⟨k,rfl,rfl,rfl,hk⟩;refine Jz 6 ?_;refine ax rfl ?_ ?_<;>intro k58;obtain⟨x,hx⟩:=bq F.flags k om;refine Jz 9 ?_;refine ay fun b10=>?_;refine Jz 9 ?_;refine Jvf (aTn fb X (pgk X.pb A q ps) (Lb _ _ _ _) F hXp hG k x hx) (by show owns (flk fb X (pgk X.pb A q ps))++[]=[];rw[(Gf (Lb _ _ _ _)).owns];rfl) (ag (au 1 rfl) (af _)) ?_;refine Jz 8 ?_;refine Jfw [] [0,1,3,302,104,5,6,7,8,9,10,11,12,13,14,15,16,17,19,318,120,21,22] (af _) ?_;refine Jz 3 ?_;refine bQ rfl rfl rfl rfl .fc (aUa fb X (pgk X.pb A q ps) (Lb _ _ _ _) F hXp hG k x hx) (by show owns (flk fb X (pgk X.pb A q ps))++[]=[];rw[(Gf (Lb _ _ _ _)).owns];rfl) (ag (au 1 rfl) (af _)) ?_;refine Jz 1 ?_;refine di rfl (Cn (v':=bf) sm (dV rfl rfl rfl)) ?_;refine Jz 7 ?_;refine di rfl (Cn (v':=bf) sm (Rd.neq rfl rfl rfl)) ?_;refine Jz 5 ?_;refine bQ rfl rfl rfl rfl .fc (aUb fb X (pgk X.pb A q ps) (Lb _ _ _ _) F hXp hG k x hx) (by show owns (flk fb X (pgk X.pb A q ps))++[]=[];rw[(Gf (Lb _ _ _ _)).owns];rfl) (ag (au 1 rfl) (af _)) ?_;refine Jz 1 ?_;refine di rfl (Cn (v':=bf) sm (Cn (v':=bf) (aPe Value.bool (by first|rfl|(rw[beq_self_eq_true];rfl))) (bV rfl Tryz.underlying4 rfl rfl))) ?_;refine Jz 12 ?_;refine Bp ⟨⟨k+1,rfl,rfl,rfl,om⟩,sb⟩;refine Jz 7 ?_;refine bz 1 rfl (ros Gm F.Ac F.comps) rfl (En (k:=eR)) (Jz 8 ?_);refine Bz (fun s g mz ρ Γ=>∃(k:Nat),ρ=[s 1,s 2,s 7,s 8,s 94,s 95,(96,nv k)]∧Γ=[g 1,g 2,g 3,g 0]∧mz=F.comps.length-k∧(k≤F.comps.length)) ⟨⟨0,rfl,rfl,rfl,om⟩,sb⟩ ?_;rintro mz _ _ ⟨k,rfl,rfl,rfl,hk⟩;refine Jz 6 ?_;refine ax rfl ?_ ?_<;>intro k97;obtain⟨x,hx⟩:=bq F.comps k om;have hXx:=(Sm hG).comp x (av hx);have hvl:=hXx.vars;have hvn:=hXx.vers2;refine Jz 9 ?_;refine ay fun b14=>?_;refine Jz 9 ?_;refine Jvf (aTm fb X (pgk X.pb A q ps) (Lb _ _ _ _) F hXp hG k x hx) (by show owns (flk fb X (pgk X.pb A q ps))++[]=[];rw[(Gf (Lb _ _ _ _)).owns];rfl) (ag (au 1 rfl) (af _)) ?_;refine Jz 9 ?_;refine Jfw [] [0,1,3,302,104,5,6,7,8,9,10,11,12,13,14,15,16,17,19,318,120,21,22,23,24,25,26,29,427,28028,130,31,28032,28033] (af _) ?_;refine Jz 3 ?_;refine bQ rfl rfl rfl rfl .fc (aTp fb X (pgk X.pb A q ps) (Lb _ _ _ _) F hXp hG k x hx) (by show owns (flk fb X (pgk X.pb A q ps))++[]=[];rw[(Gf (Lb _ _ _ _)).owns];rfl) (ag (au 1 rfl) (af _)) ?_;refine Jz 1 ?_;refine di rfl (Cn (v':=bf) sm (dV rfl rfl rfl)) ?_;refine Jz 7 ?_;refine di rfl (Cn (v':=bf) sm (Rd.neq rfl rfl rfl)) ?_;refine Jz 5 ?_;refine bQ rfl rfl rfl rfl .fc (aTq fb X (pgk X.pb A q ps) (Lb _ _ _ _) F hXp hG k x hx) (by show owns (flk fb X (pgk X.pb A q ps))++[]=[];rw[(Gf (Lb _ _ _ _)).owns];rfl) (ag (au 1 rfl) (af _)) ?_;refine Jz 2 ?_;refine di rfl (Cn (v':=bf) sm (Rd.neq rfl rfl rfl)) ?_;refine Jz 5 ?_;refine aTa rfl rfl rfl rfl rfl .fc (aSs fb X (pgk X.pb A q ps) (Lb _ _ _ _) F hXp hG k x hx) (by show owns (flk fb X (pgk X.pb A q ps))++[]=[];rw[(Gf (Lb _ _ _ _)).owns];rfl) (ag (au 1 rfl) (af _)) ?_;rintro _ _ ⟨Bm,pm,rfl,rfl⟩;refine⟨rfl,?_⟩;refine Jz 3 ?_;refine di rfl (Cn (v':=bf) sm (Rd.neq rfl rfl rfl)) ?_;refine Jz 10 ?_;refine Jqf (aSs fb X (pgk X.pb A q ps) (Lb _ _ _ _) F hXp hG k x hx) (by show owns (flk fb X (pgk X.pb A q ps))++[]=[];rw[(Gf (Lb _ _ _ _)).owns];rfl) (ag (au 2 rfl) (af _)) ?_;rintro _ _ ⟨Bn,pn,rfl,rfl⟩;refine⟨rfl,?_⟩;refine Jz 5 ?_;refine bz 4 rfl (ros Pw x.Av x.vars) rfl (Dg hx _ (Kj (k:=eR))) (Bz (fun s g mz ρ Γ=>∃(j:Nat),ρ=[s 1,s 2,s 7,s 8,s 94,s 95,s 96,s 13,s 14,s 144,s 145,(146,nv j)]∧Γ=[g 4,g 5,g 6,g 7,g 3,g 1,g 0]∧mz=x.vars.length-j∧(j≤x.vars.length)) ⟨⟨0,rfl,rfl,rfl,om⟩,sb⟩ ?_);rintro mz _ _ ⟨j,rfl,rfl,rfl,hj⟩;refine Jz 6 ?_;refine ax rfl ?_ ?_<;>intro k147;obtain⟨y,hy⟩:=bq x.vars j om;have hty:=aUg hG hx hy;refine Jz 9 ?_;refine ay fun b18=>?_;refine Jz 10 ?_;refine Jvf (aTz fb X (pgk X.pb A q ps) (Lb _ _ _ _) F hXp hG k x hx j y hy) (by show owns (flk fb X (pgk X.pb A q ps))++[]=[];rw[(Gf (Lb _ _ _ _)).owns];rfl) (ag (au 1 rfl) (af _)) ?_;refine Jz 8 ?_;refine Jfw [] [1,3,7,9,14,16,100,102,104,5,106,108,110,11,112,13,115,117,18,119,20,21,22,23,24,25,26,27,28,29,30] (af _) ?_;refine Jz 15 ?_;refine di rfl (Km rfl rfl Tryz.underlying3 Tryz.underlying90 (IntWalk.u8_in _ om)) ?_;refine Jz 4 ?_;refine di rfl (.bd [.string y.name,ub y.ty,iv y.init]) ?_;refine di rfl (aSw rfl rfl rfl kr (aUc y.name ((y.ty:Nat):Int) y.init)) ?_;refine Jz 7 ?_;refine di rfl (Cn (v':=bf) sm (Rd.neq rfl rfl rfl)) ?_;refine Jz 12 ?_;refine Bp ⟨⟨j+1,rfl,rfl,rfl,om⟩,sb⟩;refine Jz 11 ?_;refine Bp ⟨⟨k+1,rfl,rfl,rfl,om⟩,sb⟩;refine Jz 8 ?_;refine Jvf (aTe fb X (pgk X.pb A q ps) (Lb _ _ _ _) F hXp hG) (by show owns (flk fb X (pgk X.pb A q ps))++[]=[];rw[(Gf (Lb _ _ _ _)).owns];rfl) (ag (au 0 rfl) (af _)) ?_;refine Jz 10 ?_;refine Jvf (aTf fb X (pgk X.pb A q ps) (Lb _ _ _ _) F hXp hG) (by show owns (flk fb X (pgk X.pb A q ps))++[]=[];rw[(Gf (Lb _ _ _ _)).owns];rfl) (ag (au 0 rfl) (af _)) ?_;refine Jz 10 ?_;refine Jvf (aTo fb X (pgk X.pb A q ps) (Lb _ _ _ _) F hXp hG) (by show owns (flk fb X (pgk X.pb A q ps))++[]=[];rw[(Gf (Lb _ _ _ _)).owns];rfl) (ag (au 0 rfl) (af _)) ?_;refine Jz 12 ?_;refine JgP ?_ ?_<;>intro g209;refine Jz 8 ?_;refine ax rfl ?_ ?_<;>intro k215;refine Jz 17 ?_;refine bv Tryz.results7 ?_;rfl;have hc:c<0∨(X.F.comps.length:Int)≤c:=by rw[hcl];omega
 have hnE:Bg Tryz.prog 34 [pv fb,iv c] [all (flk fb X (pgk X.pb A q ps))] (fun v _=>v= .string nE):=by
  have h:=(tO fb X (pgk X.pb A q ps) (Lb _ _ _ _) c).mono fun _ _ h=>h.1;rw[Yx hc]at h;exact h
 have hv0:Bg Tryz.prog 35 [pv fb,iv c] [all (flk fb X (pgk X.pb A q ps))] (fun v _=>v=iv 0):=by
  have h:=(mR fb X (pgk X.pb A q ps) (Lb _ _ _ _) c).mono fun _ _ h=>h.1;rw[Yx hc]at h;exact h
 have hh0:=Zv fb X (pgk X.pb A q ps) A q ps hPX c;rw[XI (by rw[hP.len,show F'.comps.length=F.comps.length from by have:=aPe (fun f:PF=>f.comps.length) hF';simpa[Fl.pure]using this];omega)]at hh0;refine Jz 6 ?_;refine Jvf (aSr fb X (pgk X.pb A q ps) (Lb _ _ _ _) c hc (fT [120,48])) (by show owns (flk fb X (pgk X.pb A q ps))++[]=[];rw[(Gf (Lb _ _ _ _)).owns];rfl) (ag (au 0 rfl) (af _)) ?_;refine Jz 26 ?_;refine Jvf (hnE) (by show owns (flk fb X (pgk X.pb A q ps))++[]=[];rw[(Gf (Lb _ _ _ _)).owns];rfl) (ag (au 0 rfl) (af _)) ?_;refine Jr (Cn (v':=bt) (by first|(simp;done)|(simp;rfl)|rfl) (Ky rfl rfl rfl)) ?_;refine Jz 4 ?_;refine Jvf (hv0) (by show owns (flk fb X (pgk X.pb A q ps))++[]=[];rw[(Gf (Lb _ _ _ _)).owns];rfl) (ag (au 0 rfl) (af _)) ?_;refine Jr (Cn (v':=bt) sm (Rd.eql rfl rfl rfl)) ?_;refine Jz 4 ?_;refine Jqf (aSk fb X (pgk X.pb A q ps) (Lb _ _ _ _) c hc) (by show owns (flk fb X (pgk X.pb A q ps))++[]=[];rw[(Gf (Lb _ _ _ _)).owns];rfl) (ag (au 0 rfl) (af _)) ?_;rintro _ _ ⟨Bn,pn,rfl,rfl⟩;refine⟨rfl,?_⟩;refine Jz 1 ?_;refine Jr (Cn (v':=bt) sm (Rd.eql rfl rfl rfl)) ?_;refine Jz 4 ?_;refine Jqf (hh0) (by show owns (flk fb X (pgk X.pb A q ps))++[]=[];rw[(Gf (Lb _ _ _ _)).owns];rfl) (ag (au 1 rfl) (af _)) ?_;rintro _ _ ⟨Bh,rh,rfl,rfl⟩;refine⟨rfl,?_⟩;refine Jz 1 ?_;refine Jr (Cn (v':=bt) sm (Rd.eql rfl rfl rfl)) ?_;refine Jz 4 ?_;refine Jvf ((aSh fb X (pgk X.pb A q ps) (Lb _ _ _ _) c hc).mono fun _ _ h=>h.1) (by show owns (flk fb X (pgk X.pb A q ps))++[]=[];rw[(Gf (Lb _ _ _ _)).owns];rfl) (ag (au 2 rfl) (af _)) ?_;refine Jz 1 ?_;refine Jr (Cn (v':=bt) sm (Rd.eql rfl rfl rfl)) ?_;refine Jz 4 ?_;refine JgP ?_ ?_<;>intro g282;refine Jz 6 ?_;refine JgP ?_ ?_<;>intro g289;refine Jz 14 ?_;refine Jo [(1,iv c),(2,iv v),(7,pv fb),(8,pv b8),(94,vs F.Ac F.comps F.qc),(95,nv F.comps.length),(96,nv k),(97, .bool (decide (((k:Nat):Int)<((F.comps.length:Nat):Int)))),(22,bf),(24,bf),(26,bf),(215, .bool (decide (c<((F.comps.length:Nat):Int)))),(28,bf),(6,bt)] sb (Jt (Jrt (bv Tryz.results7 ?_)));rfl;have hfo:v<0∨(X.F.flags.length:Int)≤v:=by rw[hfl];omega
 have hgE:Bg Tryz.prog 31 [pv fb,iv v] [all (flk fb X (pgk X.pb A q ps))] (fun r _=>r= .string nE):=by
  have h:=(Bc fb X (pgk X.pb A q ps) (Lb _ _ _ _) v).mono fun _ _ h=>h.1;rw[Ai hfo]at h;exact h
 have hg0:Bg Tryz.prog 32 [pv fb,iv v] [all (flk fb X (pgk X.pb A q ps))] (fun r _=>r=bf):=by
  have h:=(Br fb X (pgk X.pb A q ps) (Lb _ _ _ _) v).mono fun _ _ h=>h.1;rw[Ai hfo]at h;exact h
 refine Jz 2 ?_;refine Jvf (hgE) (by show owns (flk fb X (pgk X.pb A q ps))++[]=[];rw[(Gf (Lb _ _ _ _)).owns];rfl) (ag (au 2 rfl) (af _)) ?_;refine Jr (Cn (v':=bt) (by first|(simp;done)|(simp;rfl)|rfl) (Ky rfl rfl rfl)) ?_;refine Jz 3 ?_;refine Jvf (hg0) (by show owns (flk fb X (pgk X.pb A q ps))++[]=[];rw[(Gf (Lb _ _ _ _)).owns];rfl) (ag (au 2 rfl) (af _)) ?_;refine Jz 6 ?_;refine Jo [(1,iv c),(2,iv v),(7,pv fb),(8,pv b8),(94,vs F.Ac F.comps F.qc),(95,nv F.comps.length),(96,nv k),(97, .bool (decide (((k:Nat):Int)<((F.comps.length:Nat):Int)))),(22,bf),(24,bf),(26,bf),(215, .bool (decide (c<((F.comps.length:Nat):Int)))),(28,bf),(6,bt)] sb (Jt (Jrt (bv Tryz.results7 ?_)));rfl;have hfo:v<0∨(X.F.flags.length:Int)≤v:=by rw[hfl];omega
 have hgE:Bg Tryz.prog 31 [pv fb,iv v] [all (flk fb X (pgk X.pb A q ps))] (fun r _=>r= .string nE):=by
  have h:=(Bc fb X (pgk X.pb A q ps) (Lb _ _ _ _) v).mono fun _ _ h=>h.1;rw[Ai hfo]at h;exact h
 have hg0:Bg Tryz.prog 32 [pv fb,iv v] [all (flk fb X (pgk X.pb A q ps))] (fun r _=>r=bf):=by
  have h:=(Br fb X (pgk X.pb A q ps) (Lb _ _ _ _) v).mono fun _ _ h=>h.1;rw[Ai hfo]at h;exact h
 refine Jz 9 ?_;refine Jvf (hgE) (by show owns (flk fb X (pgk X.pb A q ps))++[]=[];rw[(Gf (Lb _ _ _ _)).owns];rfl) (ag (au 2 rfl) (af _)) ?_;refine Jr (Cn (v':=bt) (by first|(simp;done)|(simp;rfl)|rfl) (Ky rfl rfl rfl)) ?_;refine Jz 3 ?_;refine Jvf (hg0) (by show owns (flk fb X (pgk X.pb A q ps))++[]=[];rw[(Gf (Lb _ _ _ _)).owns];rfl) (ag (au 2 rfl) (af _)) ?_;refine Jz 6 ?_;refine Jo [(1,iv c),(2,iv v),(7,pv fb),(8,pv b8),(94,vs F.Ac F.comps F.qc),(95,nv F.comps.length),(96,nv k),(97, .bool (decide (((k:Nat):Int)<((F.comps.length:Nat):Int)))),(22,bf),(24,bf),(26,bf),(215, .bool (decide (c<((F.comps.length:Nat):Int)))),(28,bf),(6,bt)] sb (Jt (Jrt (bv Tryz.results7 ?_)));rfl;have hc:c<0∨(X.F.comps.length:Int)≤c:=by rw[hcl];omega
 have hnE:Bg Tryz.prog 34 [pv fb,iv c] [all (flk fb X (pgk X.pb A q ps))] (fun v _=>v= .string nE):=by
  have h:=(tO fb X (pgk X.pb A q ps) (Lb _ _ _ _) c).mono fun _ _ h=>h.1;rw[Yx hc]at h;exact h
 have hv0:Bg Tryz.prog 35 [pv fb,iv c] [all (flk fb X (pgk X.pb A q ps))] (fun v _=>v=iv 0):=by
  have h:=(mR fb X (pgk X.pb A q ps) (Lb _ _ _ _) c).mono fun _ _ h=>h.1;rw[Yx hc]at h;exact h
 have hh0:=Zv fb X (pgk X.pb A q ps) A q ps hPX c;rw[XI (by rw[hP.len,show F'.comps.length=F.comps.length from by have:=aPe (fun f:PF=>f.comps.length) hF';simpa[Fl.pure]using this];omega)]at hh0;refine Jz 15 ?_;refine Jvf (aSr fb X (pgk X.pb A q ps) (Lb _ _ _ _) c hc (fT [120,48])) (by show owns (flk fb X (pgk X.pb A q ps))++[]=[];rw[(Gf (Lb _ _ _ _)).owns];rfl) (ag (au 0 rfl) (af _)) ?_;refine Jz 26 ?_;refine Jvf (hnE) (by show owns (flk fb X (pgk X.pb A q ps))++[]=[];rw[(Gf (Lb _ _ _ _)).owns];rfl) (ag (au 0 rfl) (af _)) ?_;refine Jr (Cn (v':=bt) (by first|(simp;done)|(simp;rfl)|rfl) (Ky rfl rfl rfl)) ?_;refine Jz 4 ?_;refine Jvf (hv0) (by show owns (flk fb X (pgk X.pb A q ps))++[]=[];rw[(Gf (Lb _ _ _ _)).owns];rfl) (ag (au 0 rfl) (af _)) ?_;refine Jr (Cn (v':=bt) sm (Rd.eql rfl rfl rfl)) ?_;refine Jz 4 ?_;refine Jqf (aSk fb X (pgk X.pb A q ps) (Lb _ _ _ _) c hc) (by show owns (flk fb X (pgk X.pb A q ps))++[]=[];rw[(Gf (Lb _ _ _ _)).owns];rfl) (ag (au 0 rfl) (af _)) ?_;rintro _ _ ⟨Bn,pn,rfl,rfl⟩;refine⟨rfl,?_⟩;refine Jz 1 ?_;refine Jr (Cn (v':=bt) sm (Rd.eql rfl rfl rfl)) ?_;refine Jz 4 ?_;refine Jqf (hh0) (by show owns (flk fb X (pgk X.pb A q ps))++[]=[];rw[(Gf (Lb _ _ _ _)).owns];rfl) (ag (au 1 rfl) (af _)) ?_;rintro _ _ ⟨Bh,rh,rfl,rfl⟩;refine⟨rfl,?_⟩;refine Jz 1 ?_;refine Jr (Cn (v':=bt) sm (Rd.eql rfl rfl rfl)) ?_;refine Jz 4 ?_;refine Jvf ((aSh fb X (pgk X.pb A q ps) (Lb _ _ _ _) c hc).mono fun _ _ h=>h.1) (by show owns (flk fb X (pgk X.pb A q ps))++[]=[];rw[(Gf (Lb _ _ _ _)).owns];rfl) (ag (au 2 rfl) (af _)) ?_;refine Jz 1 ?_;refine Jr (Cn (v':=bt) sm (Rd.eql rfl rfl rfl)) ?_;refine Jz 4 ?_;refine JgP ?_ ?_<;>intro g282;refine Jz 6 ?_;refine JgP ?_ ?_<;>intro g289;refine Jz 14 ?_;refine Jo [(1,iv c),(2,iv v),(7,pv fb),(8,pv b8),(94,vs F.Ac F.comps F.qc),(95,nv F.comps.length),(96,nv k),(97, .bool (decide (((k:Nat):Int)<((F.comps.length:Nat):Int)))),(22,bf),(24,bf),(26,bf),(215,bf),(28,bf),(6,bt)] sb (Jt (Jrt (bv Tryz.results7 ?_)));rfl;have hfo:v<0∨(X.F.flags.length:Int)≤v:=by rw[hfl];omega
 have hgE:Bg Tryz.prog 31 [pv fb,iv v] [all (flk fb X (pgk X.pb A q ps))] (fun r _=>r= .string nE):=by
  have h:=(Bc fb X (pgk X.pb A q ps) (Lb _ _ _ _) v).mono fun _ _ h=>h.1;rw[Ai hfo]at h;exact h
 have hg0:Bg Tryz.prog 32 [pv fb,iv v] [all (flk fb X (pgk X.pb A q ps))] (fun r _=>r=bf):=by
  have h:=(Br fb X (pgk X.pb A q ps) (Lb _ _ _ _) v).mono fun _ _ h=>h.1;rw[Ai hfo]at h;exact h
 refine Jz 2 ?_;refine Jvf (hgE) (by show owns (flk fb X (pgk X.pb A q ps))++[]=[];rw[(Gf (Lb _ _ _ _)).owns];rfl) (ag (au 2 rfl) (af _)) ?_;refine Jr (Cn (v':=bt) (by first|(simp;done)|(simp;rfl)|rfl) (Ky rfl rfl rfl)) ?_;refine Jz 3 ?_;refine Jvf (hg0) (by show owns (flk fb X (pgk X.pb A q ps))++[]=[];rw[(Gf (Lb _ _ _ _)).owns];rfl) (ag (au 2 rfl) (af _)) ?_;refine Jz 6 ?_;refine Jo [(1,iv c),(2,iv v),(7,pv fb),(8,pv b8),(94,vs F.Ac F.comps F.qc),(95,nv F.comps.length),(96,nv k),(97, .bool (decide (((k:Nat):Int)<((F.comps.length:Nat):Int)))),(22,bf),(24,bf),(26,bf),(215,bf),(28,bf),(6,bt)] sb (Jt (Jrt (bv Tryz.results7 ?_)));rfl;have hfo:v<0∨(X.F.flags.length:Int)≤v:=by rw[hfl];omega
 have hgE:Bg Tryz.prog 31 [pv fb,iv v] [all (flk fb X (pgk X.pb A q ps))] (fun r _=>r= .string nE):=by
  have h:=(Bc fb X (pgk X.pb A q ps) (Lb _ _ _ _) v).mono fun _ _ h=>h.1;rw[Ai hfo]at h;exact h
 have hg0:Bg Tryz.prog 32 [pv fb,iv v] [all (flk fb X (pgk X.pb A q ps))] (fun r _=>r=bf):=by
  have h:=(Br fb X (pgk X.pb A q ps) (Lb _ _ _ _) v).mono fun _ _ h=>h.1;rw[Ai hfo]at h;exact h
 refine Jz 9 ?_;refine Jvf (hgE) (by show owns (flk fb X (pgk X.pb A q ps))++[]=[];rw[(Gf (Lb _ _ _ _)).owns];rfl) (ag (au 2 rfl) (af _)) ?_;refine Jr (Cn (v':=bt) (by first|(simp;done)|(simp;rfl)|rfl) (Ky rfl rfl rfl)) ?_;refine Jz 3 ?_;refine Jvf (hg0) (by show owns (flk fb X (pgk X.pb A q ps))++[]=[];rw[(Gf (Lb _ _ _ _)).owns];rfl) (ag (au 2 rfl) (af _)) ?_;refine Jz 6 ?_;refine Jo [(1,iv c),(2,iv v),(7,pv fb),(8,pv b8),(94,vs F.Ac F.comps F.qc),(95,nv F.comps.length),(96,nv k),(97, .bool (decide (((k:Nat):Int)<((F.comps.length:Nat):Int)))),(22,bf),(24,bf),(26,bf),(215,bf),(28,bf),(6,bt)] sb (Jt (Jrt (bv Tryz.results7 ?_)));rfl
end Go.Proofs.YtihgdnjkofpgiaaGreatDoor

/- Own text. -/
import Derived.Test.YtihgdnjkofpgiaaGreatDoorVb
import Derived.Test.YtihgdnjkofpgiaaGreatDoorRb
set_option maxHeartbeats 8000000
set_option maxRecDepth 100000
set_option linter.unusedVariables false
set_option linter.unusedSimpArgs false
namespace Go.Proofs.YtihgdnjkofpgiaaGreatDoor
open Go.Proofs.Tryz
open Go.RowKit Go.Flow Go.Mem Go.Sep Go.In
structure HN where
 A:OA
 q:Nat
 l:List yB
def Wy(e:HN):List vU:=[vs e.A e.l e.q]
instance WV:Enc Wy 1:=⟨fun _=>rfl,fun e u hu=>by
 simp only[Wy,aPi,aPm,aQo]at hu;subst hu;rfl⟩
structure Cp where
 Ah:OA
 qh:Nat
 hs:List HN
 own:Nat
 Av:OA
 qv:Nat
 vn:List yB
 At:OA
 qt:Nat
 tn:List yB
 Af:OA
 qf:Nat
 fn:List yB
 Ap:OA
 qp:Nat
 ps:List yB
def BJ(C:Cp)(i:Nat):List yB:=((C.hs.map HN.l)[i]?).getD []
def Cp.cc(F:Fl)(C:Cp):Cc where
 pn s:=match ixF s 0 C.ps with|some k=>⟨3,(k:Int),0,0⟩|none=>match ixF s 0 C.vn with|some k=>⟨2,(k:Int),0,0⟩|none=>⟨4,oI (ixF s 0 C.fn),0,0⟩
 vs s:=oI (ixF s 0 C.vn)
 ts s:=oI (ixF s 0 C.tn)
 tg c h:=(oI (ixF c 0 (F.comps.map Cm.name)),oI (ixF h 0 (BJ C (oI (ixF c 0 (F.comps.map Cm.name))).toNat)))
 ah h:=oI (ixF h 0 (BJ C C.own))
def Cp.kids(F:Fl)(C:Cp):List Ad:=ros Dc C.Ap C.ps::ros Dc C.Av C.vn::ros Dc C.At C.tn::ros Dc C.Af C.fn::ros Wy C.Ah C.hs::ros Gm F.Ac F.comps::C.hs.map (fun h=>ros Dc h.A h.l)
theorem kG{α:Type}{f:α→List vU}{A:OA}{l:List α}:Lax [ros f A l]:=gy rfl Lax.nil
theorem eT{α β:Type}(f:α→β):∀l:List α,l.map f=l.flatMap fun x=>[f x]
 |[]=>rfl
 |x::r=>by rw[aQd,aQq,eT f r];rfl
theorem Cp.lax(F:Fl)(C:Cp):Lax (C.kids F):=gy rfl (gy rfl (gy rfl (gy rfl (gy rfl (gy rfl (by rw[eT];exact Gt fun h _=>kG))))))
abbrev cR(F:Fl)(C:Cp)(x:Value):List Value:=cF F [vs C.Ah C.hs C.qh,nv C.own,vs C.Av C.vn C.qv,vs C.At C.tn C.qt,vs C.Af C.fn C.qf,vs C.Ap C.ps C.qp,x]
structure Cp.Low(F:Fl)(C:Cp):Prop where
 p:C.ps.length≤12
 v:C.vn.length≤12
 t:C.tn.length≤12
 f:C.fn.length≤12
 c:F.comps.length≤12
 h:C.hs.length=F.comps.length
 o:C.own<C.hs.length
 each:∀h∈C.hs,h.l.length≤12
section
variable{F:Fl}{C:Cp}
theorem aDf:ros Dc C.Ap C.ps∈C.kids F:=aPc ..
theorem wT:ros Dc C.Av C.vn∈C.kids F:=aPb _ (aPc ..)
theorem eU:ros Dc C.At C.tn∈C.kids F:=aPb _ (aPb _ (aPc ..))
theorem aDg:ros Dc C.Af C.fn∈C.kids F:=aPb _ (aPb _ (aPb _ (aPc ..)))
theorem KT:ros Wy C.Ah C.hs∈C.kids F:=aPb _ (aPb _ (aPb _ (aPb _ (aPc ..))))
theorem aDh:ros Gm F.Ac F.comps∈C.kids F:=aPb _ (aPb _ (aPb _ (aPb _ (aPb _ (aPc ..)))))
theorem KU{i:Nat}{h:HN}(hh:C.hs[i]?=some h):ros Dc h.A h.l∈C.kids F:=aPb _ (aPb _ (aPb _ (aPb _ (aPb _ (aPb _ (aPx.2 ⟨h,av hh,rfl⟩))))))
theorem KV{i:Nat}{h:HN}(hh:C.hs[i]?=some h):BJ C i=h.l:=by unfold BJ;rw[aPs,hh];rfl
end
theorem aFf{α:Type}{f:α→yB}{s:yB}:∀{l:List α} {k:Nat} {c:α},l.find? (fun y:α=>decide (f y=s))=some c→∃j,ixF s k (l.map f)=some (k+j)∧l[j]?=some c
 |[],_,_,h=>by cases h
 | x ::r,k,c,h=>by
   by_cases hx:f x=s
   · rw[List.find?_cons_of_pos (by simpa using hx)]at h
     exact⟨0,by rw[aQd,ixF,aPr hx];rfl,h⟩
   · rw[List.find?_cons_of_neg (by simpa using hx)]at h
     obtain⟨j,h1,h2⟩:=aFf (k:=k+1) h;exact⟨j+1,by rw[aQd,ixF,aPf hx,h1];congr 1;omega,h2⟩
structure PU where
 np:Nat
 st:Int
 A:OA
 q:Nat
 l:List Ins
def zPU:PU:=⟨0,0,none,0,[]⟩
def Sv(u:PU):List vU:=[nv u.np,iv u.st,vs u.A u.l u.q]
instance eY:Enc Sv 3:=⟨fun _=>rfl,fun e u hu=>by
 simp only[Sv,aPi,aPm,aQo]at hu;rcases hu with rfl|rfl|rfl<;>rfl⟩
structure PV where
 A:OA
 q:Nat
 l:List PU
def oV(e:PV):List vU:=[vs e.A e.l e.q]
instance BK:Enc oV 1:=⟨fun _=>rfl,fun e u hu=>by
 simp only[oV,aPi,aPm,aQo]at hu;subst hu;rfl⟩
structure PB where
 A:OA
 q:Nat
 l:List Bool
def iX(e:PB):List vU:=[vs e.A e.l e.q]
instance BL:Enc iX 1:=⟨fun _=>rfl,fun e u hu=>by
 simp only[iX,aPi,aPm,aQo]at hu;subst hu;rfl⟩
def Sw(b:Bool):List vU:=[.bool b]
instance oW:Enc Sw 1:=⟨fun _=>rfl,fun e u hu=>by
 simp only[Sw,aPi,aPm,aQo]at hu;subst hu;rfl⟩
structure PP where
 An:OA
 qn:Nat
 names:List yB
 Au:OA
 qu:Nat
 us:List PV
 Af:OA
 qf:Nat
 fs:List PB
def Tz(e:PP):List vU:=[vs e.An e.names e.qn,vs e.Au e.us e.qu,vs e.Af e.fs e.qf]
instance BM:Enc Tz 3:=⟨fun _=>rfl,fun e u hu=>by
 simp only[Tz,aPi,aPm,aQo]at hu;rcases hu with rfl|rfl|rfl<;>rfl⟩
def kUs(l:List PU):List Ad:=l.flatMap fun u=>[ros Ins.cells u.A u.l]
def PV.kids(v:PV):List Ad:=ros Sv v.A v.l::kUs v.l
def PP.kids(c:PP):List Ad:=ros Dc c.An c.names::ros oV c.Au c.us::ros iX c.Af c.fs::(c.us.flatMap PV.kids++c.fs.flatMap fun b=>[ros Sw b.A b.l])
theorem kH(l:List PU):Lax (kUs l):=Gt fun _ _=>kG
theorem PV.lax(v:PV):Lax v.kids:=gy rfl (kH _)
theorem WW(F:Fl)(C:Cp)(hC:C.Low F)(cb:Nat)(A:OA)(q:Nat)(l:List Ins)(op:Nat)(x y n:Int)(hl:(l++[(⟨op,x,y,n⟩:Ins)]).length≤1000000):
    Dz 222 [pv cb, .agg #[ub op,iv x,iv y,iv n]] [box cb (cR F C (vs A l q)) 131,rows Ins.cells 147 4 A q l] (fun v Γ'=>∃(A':OA) (q':Nat),v=nv l.length∧Γ'=[box cb (cF F [vs C.Ah C.hs C.qh,nv C.own,vs C.Av C.vn C.qv,vs C.At C.tn C.qt,vs C.Af C.fn C.qf,vs C.Ap C.ps C.qp,vs A' (l++[(⟨op,x,y,n⟩:Ins)]) q']) 131,rows Ins.cells 147 4 A' q' (l++[(⟨op,x,y,n⟩:Ins)])]):=by
 rw[bu]at hl;have hl2:l.length+1≤1000000:=hl;have hl3:(l++[(⟨op,x,y,n⟩:Ins)]).length=l.length+1:=by rw[bu];rfl
 refine Ba func222 ntmps222 fun w0=>?_;refine Js (dh (Jbo fun b3=>?_));refine Jz 4 ?_;refine Jfw [] [0,1,2,3,104,105,206,7507,8,9,510] (af _) ?_;refine Jz 6 ?_;refine Ew [ub op,iv x,iv y,iv n] fun b11=>?_;refine Fw.ge rfl rfl rfl rfl (Cf iN (i:=3) (j:=0) (el:=(⟨op,x,y,n⟩:Ins)) rfl s61 rfl rfl rfl rfl rfl om om) ?_;rintro _ _ ⟨A12,q12,rfl,rfl⟩;refine⟨af _,?_⟩;refine Jz 2 ?_;refine dm rfl rfl rfl (df (i:=2) rfl rfl rfl c61 rfl rfl (bt1 rfl)) (af _) ?_;refine Jz 9 ?_;refine Jr (Ev rfl rfl rfl om) ?_;refine Jz 4 ?_;refine Cr (Cq (bv results222 ?_));exact⟨_,_,by rw[hl3];congr 1;omega,rfl⟩
theorem He(F:Fl)(C:Cp)(hC:C.Low F)(cb:Nat)(A:OA)(q:Nat)(l:List Ins)(x:Ins)(hl:(l++[x]).length≤1000000):Dz 222 [pv cb, .agg (Ins.cells x).toArray] [box cb (cR F C (vs A l q)) 131,rows Ins.cells 147 4 A q l] (fun v Γ'=>∃(A':OA) (q':Nat),v=nv l.length∧Γ'=[box cb (cF F [vs C.Ah C.hs C.qh,nv C.own,vs C.Av C.vn C.qv,vs C.At C.tn C.qt,vs C.Af C.fn C.qf,vs C.Ap C.ps C.qp,vs A' (l++[x]) q']) 131,rows Ins.cells 147 4 A' q' (l++[x])]):=WW F C hC cb A q l x.op x.a x.b x.n hl
theorem aDi(b:Nat)(s:St)(x:Cm):
    Dz 226 [.agg (Gm x).toArray,pv b] [ro (some ⟨b,0,none⟩) (Ca s)] (fun v _=>v= .bool (decide (x.name=s.name))):=by
 refine Ba func226 ntmps226 fun w0=>?_;refine Js (dh (Jbo fun b2=>?_));refine Jz 8 ?_;refine Jr (Cu (i:=1) rfl rfl c9 rfl (Eb (A:=some ⟨b,0,none⟩) (o:=1) (k:=1) rfl)) ?_;refine Jr (Ky rfl rfl rfl) ?_;refine Jz 4 ?_;refine bv results226 ?_;rfl
theorem PW(b:Nat)(s:St)(A:OA)(q:Nat)(l:List Cm)(o:oP Nat)(hl:l.length≤12)(ho:ixF s.name 0 (l.map Cm.name)=o):
    Dz 225 [vs A l q, .func (.func 226) #[] #[pv b]] [ros Gm A l,ro (some ⟨b,0,none⟩) (Ca s)] (fun v _=>v=iv (oI o)):=by
 refine Ba func225 ntmps225 fun w0=>?_;refine Jz 14 ?_;refine Jh (fun u g mz ρ Γ=>∃(k:Nat),ρ=[u 0,u 1,u 6,u 7,(8,nv k)]∧Γ=[g 0,g 1]∧mz=l.length-k∧(k≤l.length)∧(ixF s.name k ((l.map Cm.name).drop k)=o)) ⟨⟨0,rfl,rfl,rfl,om,ho⟩,sb⟩ ?_;rintro mz _ _ ⟨k,rfl,rfl,rfl,hk,ho⟩;refine Jz 6 ?_;refine ax rfl ?_ ?_<;>intro k9;obtain⟨y,hy⟩:=bq l k om;refine Jz 17 ?_;refine JcV rfl rfl rfl (dn (first:=[]) (captured:=[pv b]) rfl rfl rfl (kc.h 226 rfl)) (aDi b s y) rfl (ag (au 1 rfl) (af _)) (Jn (Jt (ax rfl (fun k16=>?_) (fun k16=>?_))));refine Jz 12 ?_;refine bv results225 ?_;rw[show o=some k from by rw[←ho];exact GI (by rw[aPs,hy,←k16];rfl)];rfl;refine Jz 8 ?_;refine Db ⟨⟨k+1,rfl,rfl,rfl,om,(by rw[←VQ (x:=y.name) (by rw[aPs,hy];rfl) k16];exact ho)⟩,sb⟩;refine Jz 11 ?_;refine bv results225 ?_;rw[show o=none from by rw[←ho];exact GJ (by rw[aPg];omega)];rfl
theorem WX(F:Fl)(C:Cp)(hC:C.Low F)(cb:Nat)(A:OA)(q:Nat)(l:List Ins)(s:yB)(hl:(l++[(C.cc F).pn s]).length≤1000000):
    Dz 250 [pv cb, .string s] [box cb (cR F C (vs A l q)) 131,rows Ins.cells 147 4 A q l,all (C.kids F)] (fun v Γ'=>∃(A':OA) (q':Nat),Γ'=[box cb (cF F [vs C.Ah C.hs C.qh,nv C.own,vs C.Av C.vn C.qv,vs C.At C.tn C.qt,vs C.Af C.fn C.qf,vs C.Ap C.ps C.qp,vs A' (l++[(C.cc F).pn s]) q']) 131,rows Ins.cells 147 4 A' q' (l++[(C.cc F).pn s]),all (C.kids F)]):=by
 rw[bu]at hl;have hl2:l.length+1≤1000000:=hl;refine Ba func250 ntmps250 fun w0=>?_;refine Js (bz 2 rfl (ros Dc C.Ap C.ps) rfl (aDf) (Jz 6 ?_));refine Jvf (La C.Ap C.qp C.ps s _ hC.p rfl) rfl (ag (au 0 rfl) (af _)) ?_;refine Jz 6 ?_;refine Jr (Cn (v':= .bool (ixF s 0 C.ps).isSome) (aPe Value.bool (KI _)) (Rd.geq rfl rfl rfl)) ?_;refine Jn (Jt (Ej rfl (fun c13=>?_) (fun c13=>?_)));refine Jz 3 ?_;refine Jr (.bd [ui 3,iv (oI (ixF s 0 C.ps)),iv 0,iv 0]) ?_;refine az [1,1] (He F C hC cb A q l (⟨3,oI (ixF s 0 C.ps),0,0⟩:Ins) (by simp only[bu,bi,ln0];omega)) ?_;rintro _ _ ⟨An,qn,rfl,rfl⟩;refine Jn (Ck (Dx (.inr rfl) results250 ?_));obtain⟨k,hk⟩:=aRq.1 c13;have hp:(C.cc F).pn s=⟨3,oI (ixF s 0 C.ps),0,0⟩:=by show(match ixF s 0 C.ps with|some k=>_|none=>_)=_;rw[hk];rfl
 rw[hp];exact⟨_,_,rfl⟩;refine Js (bz 3 rfl (ros Dc C.Av C.vn) rfl (wT) (Jz 6 ?_));refine Jvf (La C.Av C.qv C.vn s _ hC.v rfl) rfl (ag (au 0 rfl) (af _)) ?_;refine Jz 6 ?_;refine Jr (Cn (v':= .bool (ixF s 0 C.vn).isSome) (aPe Value.bool (KI _)) (Rd.geq rfl rfl rfl)) ?_;refine Jn (Jt (Ej rfl (fun c25=>?_) (fun c25=>?_)));refine Jz 3 ?_;refine Jr (.bd [ui 2,iv (oI (ixF s 0 C.vn)),iv 0,iv 0]) ?_;refine az [2,2] (He F C hC cb A q l (⟨2,oI (ixF s 0 C.vn),0,0⟩:Ins) (by simp only[bu,bi,ln0];omega)) ?_;rintro _ _ ⟨An_2,qn_2,rfl,rfl⟩;refine Jn (Da (Ck (Dx (.inr rfl) results250 ?_)));have h13:ixF s 0 C.ps=none:=by simpa using c13
 obtain⟨k,hk⟩:=aRq.1 c25;have hp:(C.cc F).pn s=⟨2,oI (ixF s 0 C.vn),0,0⟩:=by show(match ixF s 0 C.ps with|some k=>_|none=>match ixF s 0 C.vn with|some k=>_|none=>_)=_;rw[h13,hk];rfl
 rw[hp];exact⟨_,_,rfl⟩;refine bz 4 rfl (ros Dc C.Af C.fn) rfl (aDg) (Jz 7 ?_);refine Jvf (La C.Af C.qf C.fn s _ hC.f rfl) rfl (ag (au 0 rfl) (af _)) ?_;refine Jr (.bd [ui 4,iv (oI (ixF s 0 C.fn)),iv 0,iv 0]) ?_;refine az [3,3] (He F C hC cb A q l (⟨4,oI (ixF s 0 C.fn),0,0⟩:Ins) (by simp only[bu,bi,ln0];omega)) ?_;rintro _ _ ⟨An_3,qn_3,rfl,rfl⟩;refine Jn (Dr (Da (Ck (Dx (.inr rfl) results250 ?_))));have h13:ixF s 0 C.ps=none:=by simpa using c13
 have h25:ixF s 0 C.vn=none:=by simpa using c25
 have hp:(C.cc F).pn s=⟨4,oI (ixF s 0 C.fn),0,0⟩:=by show(match ixF s 0 C.ps with|some k=>_|none=>match ixF s 0 C.vn with|some k=>_|none=>_)=_;rw[h13,h25]
 rw[hp];exact⟨_,_,rfl⟩
theorem iY(F:Fl)(C:Cp)(hC:C.Low F)(cb:Nat)(Ae:OA)(qe:Nat)(es:List Ex)(ih:∀x∈es,∀(A:OA) (q:Nat) (l:List Ins),(l++cE (C.cc F) x.pure).length≤1000000→Dz 243 [pv cb, .agg (Be x).toArray] [box cb (cR F C (vs A l q)) 131,rows Ins.cells 147 4 A q l,all (C.kids F),all (x.kids Be)] (fun v Γ'=>∃(A':OA) (q':Nat),Γ'=[box cb (cR F C (vs A' (l++cE (C.cc F) x.pure) q')) 131,rows Ins.cells 147 4 A' q' (l++cE (C.cc F) x.pure),all (C.kids F)]))(A:OA)(q:Nat)(l:List Ins)(hl:(l++cEs (C.cc F) (Cv es)).length≤1000000):
    Dz 223 [pv cb,vs Ae es qe] [box cb (cR F C (vs A l q)) 131,rows Ins.cells 147 4 A q l,all (C.kids F),all (lsF Be Ae es)] (fun v Γ'=>∃(A':OA) (q':Nat),Γ'=[box cb (cR F C (vs A' (l++cEs (C.cc F) (Cv es)) q')) 131,rows Ins.cells 147 4 A' q' (l++cEs (C.cc F) (Cv es)),all (C.kids F)]):=by
 rw[bu]at hl;have hal:=bD (C.cc F) es;refine Ba func223 ntmps223 fun w0=>?_;refine Js (bz 3 rfl (ros Be Ae es) rfl (aPc ..) (Jz 7 ?_));refine Bz (fun s g mz ρ Γ=>∃(Aj:OA) (qj:Nat) (lj:List Ins) (j:Nat),ρ=[s 0,s 6,s 7,(8,nv j)]∧Γ=[box cb (cR F C (vs Aj lj qj)) 131,rows Ins.cells 147 4 Aj qj lj,g 3,g 0,g 4]∧mz=es.length-j∧(j≤es.length)∧(lj=l++cEs (C.cc F) (Cv (es.take j)))) ⟨⟨A,q,l,0,rfl,rfl,rfl,om,((aPw _).symm)⟩,sb⟩ ?_;rintro mz _ _ ⟨Aj,qj,lj,j,rfl,rfl,rfl,hj,hlj⟩;have hljl:lj.length=l.length+(cEs (C.cc F) (Cv (es.take j))).length:=by rw[hlj,bu]
 refine Jz 6 ?_;refine ax rfl ?_ ?_<;>intro c9;obtain⟨x,hx⟩:=bq es j om;have hle:=aIf (C.cc F) hx;refine Jz 8 ?_;refine ay fun b5=>?_;refine Jz 3 ?_;refine Cg 5 rfl (x.kids Be) (Ex.lax Be x) (Yo hx) (Jz 3 ?_);refine az [2,2,2,0] (ih x (av hx) Aj qj lj (by rw[bu];omega)) ?_;rintro _ _ ⟨An,qn,rfl⟩;refine Jz 8 ?_;refine Bp ⟨⟨An,qn,(lj++cE (C.cc F) x.pure),j+1,rfl,rfl,rfl,om,(by rw[hlj,BD _ hx,aQi])⟩,sb⟩;refine Jz 4 ?_;refine Dr (Da (Dx (.inr rfl) results223 ?_));have hE:lj=l++cEs (C.cc F) (Cv es):=by rw[hlj,aQa om]
 rw[hE];exact⟨_,_,rfl⟩
theorem HY(F:Fl)(C:Cp)(hC:C.Low F)(cb:Nat)(e:Ex)(ih:∀x∈e.args,∀(A:OA) (q:Nat) (l:List Ins),(l++cE (C.cc F) x.pure).length≤1000000→Dz 243 [pv cb, .agg (Be x).toArray] [box cb (cR F C (vs A l q)) 131,rows Ins.cells 147 4 A q l,all (C.kids F),all (x.kids Be)] (fun v Γ'=>∃(A':OA) (q':Nat),Γ'=[box cb (cR F C (vs A' (l++cE (C.cc F) x.pure) q')) 131,rows Ins.cells 147 4 A' q' (l++cE (C.cc F) x.pure),all (C.kids F)]))(A:OA)(q:Nat)(l:List Ins)(hl:(l++cE (C.cc F) e.pure).length≤1000000):
    Dz 243 [pv cb, .agg (Be e).toArray] [box cb (cR F C (vs A l q)) 131,rows Ins.cells 147 4 A q l,all (C.kids F),all (e.kids Be)] (fun v Γ'=>∃(A':OA) (q':Nat),Γ'=[box cb (cR F C (vs A' (l++cE (C.cc F) e.pure) q')) 131,rows Ins.cells 147 4 A' q' (l++cE (C.cc F) e.pure),all (C.kids F)]):=by
 have hEl:(cE (C.cc F) e.pure).length=(cEs (C.cc F) (Cv e.args)).length+1:=by rw[Et,cE,bu];rfl
 rw[bu]at hl;have hll:(l++cEs (C.cc F) (Cv e.args)).length=l.length+(cEs (C.cc F) (Cv e.args)).length:=bu ..;refine Ba func243 ntmps243 fun w0=>?_;refine Js (dh (Jbo fun b3=>?_));refine Jz 3 ?_;refine Cg 4 rfl (lsF Be e.A e.args) (Mf _ _ _) (fun c hc=>by rw[Le];exact hc) (Jz 4 ?_);refine az [2,2,2,0] (iY F C hC cb e.A e.q e.args ih A q l (by rw[bu];omega)) ?_;rintro _ _ ⟨An,qn,rfl⟩;refine Jz 15 ?_;refine ax rfl ?_ ?_<;>intro k15;refine Jz 4 ?_;refine Jr (.bd [ui 1,iv 0,iv 0,iv e.n]) ?_;refine az [0,0] (He F C hC cb An qn (l++cEs (C.cc F) (Cv e.args)) (⟨1,0,0,e.n⟩:Ins) (by simp only[bu,bi,ln0];omega)) ?_;rintro _ _ ⟨An_2,qn_2,rfl,rfl⟩;refine Jn (Jbn (Dr (Da (Dx (.inr rfl) results243 ?_))));have hop:opI (C.cc F) e.op e.name e.n=(⟨1,0,0,e.n⟩:Ins):=by unfold opI;rw[aPr om]
 have hE:(l++cEs (C.cc F) (Cv e.args))++[(⟨1,0,0,e.n⟩:Ins)]=l++cE (C.cc F) e.pure:=by rw[Et,←hop,aQi];rfl
 rw[hE];exact⟨_,_,rfl⟩;refine Jz 6 ?_;refine ax rfl ?_ ?_<;>intro k22;refine Jz 2 ?_;refine Jr (.bd [ui 1,iv 0,iv 0,iv 1]) ?_;refine az [0,0] (He F C hC cb An qn (l++cEs (C.cc F) (Cv e.args)) (⟨1,0,0,1⟩:Ins) (by simp only[bu,bi,ln0];omega)) ?_;rintro _ _ ⟨An_3,qn_3,rfl,rfl⟩;refine Jn (Jbn (Dr (Da (Dx (.inr rfl) results243 ?_))));have hop:opI (C.cc F) e.op e.name e.n=(⟨1,0,0,1⟩:Ins):=by unfold opI;rw[aPf om,aPr om]
 have hE:(l++cEs (C.cc F) (Cv e.args))++[(⟨1,0,0,1⟩:Ins)]=l++cE (C.cc F) e.pure:=by rw[Et,←hop,aQi];rfl
 rw[hE];exact⟨_,_,rfl⟩;refine Jz 6 ?_;refine ax rfl ?_ ?_<;>intro k27;refine Jz 2 ?_;refine Jr (.bd [ui 1,iv 0,iv 0,iv 0]) ?_;refine az [0,0] (He F C hC cb An qn (l++cEs (C.cc F) (Cv e.args)) (⟨1,0,0,0⟩:Ins) (by simp only[bu,bi,ln0];omega)) ?_;rintro _ _ ⟨An_4,qn_4,rfl,rfl⟩;refine Jn (Jbn (Dr (Da (Dx (.inr rfl) results243 ?_))));have hop:opI (C.cc F) e.op e.name e.n=(⟨1,0,0,0⟩:Ins):=by unfold opI;rw[aPf om,aPf om,aPr om]
 have hE:(l++cEs (C.cc F) (Cv e.args))++[(⟨1,0,0,0⟩:Ins)]=l++cE (C.cc F) e.pure:=by rw[Et,←hop,aQi];rfl
 rw[hE];exact⟨_,_,rfl⟩;refine Jz 6 ?_;refine ax rfl ?_ ?_<;>intro k32;refine Jz 2 ?_;refine Jr (.bd [ui 5,iv 0,iv 0,iv 0]) ?_;refine az [0,0] (He F C hC cb An qn (l++cEs (C.cc F) (Cv e.args)) (⟨5,0,0,0⟩:Ins) (by simp only[bu,bi,ln0];omega)) ?_;rintro _ _ ⟨An_5,qn_5,rfl,rfl⟩;refine Jn (Jbn (Dr (Da (Dx (.inr rfl) results243 ?_))));have hop:opI (C.cc F) e.op e.name e.n=(⟨5,0,0,0⟩:Ins):=by unfold opI;rw[aPf om,aPf om,aPf om,aPr om]
 have hE:(l++cEs (C.cc F) (Cv e.args))++[(⟨5,0,0,0⟩:Ins)]=l++cE (C.cc F) e.pure:=by rw[Et,←hop,aQi];rfl
 rw[hE];exact⟨_,_,rfl⟩;refine Jz 6 ?_;refine ax rfl ?_ ?_<;>intro k37;refine Jz 4 ?_;refine az [0,0,0] (WX F C hC cb An qn (l++cEs (C.cc F) (Cv e.args)) e.name (by rw[bu];show _+1≤_;omega)) ?_;rintro _ _ ⟨An_6,qn_6,rfl⟩;refine Jn (Jbn (Dr (Da (Dx (.inr rfl) results243 ?_))));have hop:opI (C.cc F) e.op e.name e.n=(C.cc F).pn e.name:=by unfold opI;rw[aPf om,aPf om,aPf om,aPf om,aPr om]
 have hE:(l++cEs (C.cc F) (Cv e.args))++[(C.cc F).pn e.name]=l++cE (C.cc F) e.pure:=by rw[Et,←hop,aQi];rfl
 rw[hE];exact⟨_,_,rfl⟩;refine Jz 7 ?_;refine ax rfl ?_ ?_<;>intro k43;refine Jsp (Jt (Ll (aPe (fun b=>some (Value.bool b)) (aQg k43)) (bz 2 rfl (ros Dc C.At C.tn) rfl (eU) (Jfw [box b3 (Be e) 241] [0,1,2,3,4,5,7,8,106,309,10,511] (ag (au 4 rfl) (af _)) ?_))));refine Jz 9 ?_;refine Fw.qf (La C.At C.qt C.tn e.name _ hC.t rfl) (ag (au 0 rfl) (af _)) ?_;refine di rfl (.bd [ub e.op,iv (oI (ixF e.name 0 C.tn)),iv 0,iv 0]) ?_;refine Du [1,1] (He F C hC cb An qn (l++cEs (C.cc F) (Cv e.args)) (⟨e.op,oI (ixF e.name 0 C.tn),0,0⟩:Ins) (by simp only[bu,bi,ln0];omega)) ?_;rintro _ _ ⟨An_7,qn_7,rfl,rfl⟩;refine⟨ag (au 4 rfl) (af _),?_⟩;refine Jz 2 ?_;refine Gr (Dr (Ck (Dx (.inr rfl) results243 ?_)));have hop:opI (C.cc F) e.op e.name e.n=(⟨e.op,oI (ixF e.name 0 C.tn),0,0⟩:Ins):=by unfold opI;rw[aPf om,aPf om,aPf om,aPf om,aPf om,aPr om];rfl
 have hE:(l++cEs (C.cc F) (Cv e.args))++[(⟨e.op,oI (ixF e.name 0 C.tn),0,0⟩:Ins)]=l++cE (C.cc F) e.pure:=by rw[Et,←hop,aQi];rfl
 rw[hE];exact⟨_,_,rfl⟩;refine Jz 6 ?_;refine ax rfl ?_ ?_<;>intro k43_2;refine Jsp (Jt (Ll (aPe (fun b=>some (Value.bool b)) (aQg k43_2)) (bz 2 rfl (ros Dc C.At C.tn) rfl (eU) (Jfw [box b3 (Be e) 241] [0,1,2,3,4,5,7,8,106,309,10,511] (ag (au 4 rfl) (af _)) ?_))));refine Jz 9 ?_;refine Fw.qf (La C.At C.qt C.tn e.name _ hC.t rfl) (ag (au 0 rfl) (af _)) ?_;refine di rfl (.bd [ub e.op,iv (oI (ixF e.name 0 C.tn)),iv 0,iv 0]) ?_;refine Du [1,1] (He F C hC cb An qn (l++cEs (C.cc F) (Cv e.args)) (⟨e.op,oI (ixF e.name 0 C.tn),0,0⟩:Ins) (by simp only[bu,bi,ln0];omega)) ?_;rintro _ _ ⟨An_8,qn_8,rfl,rfl⟩;refine⟨ag (au 4 rfl) (af _),?_⟩;refine Jz 2 ?_;refine Gr (Dr (Ck (Dx (.inr rfl) results243 ?_)));have hop:opI (C.cc F) e.op e.name e.n=(⟨e.op,oI (ixF e.name 0 C.tn),0,0⟩:Ins):=by unfold opI;rw[aPf om,aPf om,aPf om,aPf om,aPf om,aPr om];rfl
 have hE:(l++cEs (C.cc F) (Cv e.args))++[(⟨e.op,oI (ixF e.name 0 C.tn),0,0⟩:Ins)]=l++cE (C.cc F) e.pure:=by rw[Et,←hop,aQi];rfl
 rw[hE];exact⟨_,_,rfl⟩;refine Jz 5 ?_;refine ax rfl ?_ ?_<;>intro k43_3;refine bz 2 rfl (ros Dc C.At C.tn) rfl (eU) (Jfw [box b3 (Be e) 241] [0,1,2,3,4,5,7,8,106,309,10,511] (ag (au 4 rfl) (af _)) ?_);refine Jz 9 ?_;refine Fw.qf (La C.At C.qt C.tn e.name _ hC.t rfl) (ag (au 0 rfl) (af _)) ?_;refine di rfl (.bd [ub e.op,iv (oI (ixF e.name 0 C.tn)),iv 0,iv 0]) ?_;refine Du [1,1] (He F C hC cb An qn (l++cEs (C.cc F) (Cv e.args)) (⟨e.op,oI (ixF e.name 0 C.tn),0,0⟩:Ins) (by simp only[bu,bi,ln0];omega)) ?_;rintro _ _ ⟨An_9,qn_9,rfl,rfl⟩;refine⟨ag (au 4 rfl) (af _),?_⟩;refine Jz 2 ?_;refine Gr (Dr (Ck (Dx (.inr rfl) results243 ?_)));have hop:opI (C.cc F) e.op e.name e.n=(⟨e.op,oI (ixF e.name 0 C.tn),0,0⟩:Ins):=by unfold opI;rw[aPf om,aPf om,aPf om,aPf om,aPf om,aPr om];rfl
 have hE:(l++cEs (C.cc F) (Cv e.args))++[(⟨e.op,oI (ixF e.name 0 C.tn),0,0⟩:Ins)]=l++cE (C.cc F) e.pure:=by rw[Et,←hop,aQi];rfl
 rw[hE];exact⟨_,_,rfl⟩;refine Jz 4 ?_;refine Jr (.bd [ub e.op,iv 0,iv 0,iv 0]) ?_;refine az [0,0] (He F C hC cb An qn (l++cEs (C.cc F) (Cv e.args)) (⟨e.op,0,0,0⟩:Ins) (by simp only[bu,bi,ln0];omega)) ?_;rintro _ _ ⟨An_10,qn_10,rfl,rfl⟩;refine Jn (Jbn (Dr (Da (Dx (.inr rfl) results243 ?_))));have hop:opI (C.cc F) e.op e.name e.n=(⟨e.op,0,0,0⟩:Ins):=by unfold opI;rw[aPf om,aPf om,aPf om,aPf om,aPf om,aPf om]
 have hE:(l++cEs (C.cc F) (Cv e.args))++[(⟨e.op,0,0,0⟩:Ins)]=l++cE (C.cc F) e.pure:=by rw[Et,←hop,aQi];rfl
 rw[hE];exact⟨_,_,rfl⟩
theorem BN(F:Fl)(C:Cp)(hC:C.Low F)(cb:Nat):∀e:Ex,∀(A:OA) (q:Nat) (l:List Ins),(l++cE (C.cc F) e.pure).length≤1000000→Dz 243 [pv cb, .agg (Be e).toArray] [box cb (cR F C (vs A l q)) 131,rows Ins.cells 147 4 A q l,all (C.kids F),all (e.kids Be)] (fun v Γ'=>∃(A':OA) (q':Nat),Γ'=[box cb (cR F C (vs A' (l++cE (C.cc F) e.pure) q')) 131,rows Ins.cells 147 4 A' q' (l++cE (C.cc F) e.pure),all (C.kids F)])
 |e,A,q,l,hl=>HY F C hC cb e (fun x hx=>BN F C hC cb x) A q l hl
termination_by e=>SizeOf.sizeOf e
decreasing_by
 cases e with
 | mk op s n A q l=>
   have:=aQr (show x∈l from hx);simp only[Ex.mk.sizeOf_spec];omega
theorem PX(F:Fl)(C:Cp)(hC:C.Low F)(cb:Nat)(Ae:OA)(qe:Nat)(es:List Ex)(A:OA)(q:Nat)(l:List Ins)(hl:(l++cEs (C.cc F) (Cv es)).length≤1000000):Dz 223 [pv cb,vs Ae es qe] [box cb (cR F C (vs A l q)) 131,rows Ins.cells 147 4 A q l,all (C.kids F),all (lsF Be Ae es)] (fun v Γ'=>∃(A':OA) (q':Nat),Γ'=[box cb (cR F C (vs A' (l++cEs (C.cc F) (Cv es)) q')) 131,rows Ins.cells 147 4 A' q' (l++cEs (C.cc F) (Cv es)),all (C.kids F)]):=iY F C hC cb Ae qe es (fun x _=>BN F C hC cb x) A q l hl
section
variable{cc:Cc}{t e:List PS}{X Y1 Z1 WF:List Ins}
theorem aMh{y:Ins}{B V:List Ins}(hY1:Y1=(X++[y])++B)(hZ1:Z1=Y1++V):Z1[X.length]?=some y:=by rw[hZ1,hY1];exact BF ..
theorem aOl{j:Ins}(hZ1:Z1=(X++[j])++cB cc e (X++[j]).length)(hWF:WF=Z1.set X.length ⟨27,((Z1.length:Nat):Int),0,0⟩)(he:e.isEmpty=false):WF=X++ovr X.length (cB cc e (X.length+1)) e.isEmpty:=by
 rw[Yv]at hZ1;have hzl:Z1.length=X.length+1+(cB cc e (X.length+1)).length:=by rw[hZ1,bu,Yv]
 rw[hWF,hzl,hZ1,oO,he,aQi];rfl
theorem aOm{y:Ins}{b:Bool}(hY1:Y1=(X++[y])++cB cc t (X++[y]).length)(hZ1:Z1=Y1++ovr Y1.length (cB cc e (Y1.length+1)) b)(hWF:WF=Z1.set X.length ⟨28,((Y1.length+(if b then 0 else 1):Nat):Int),0,0⟩):
    WF=X++(⟨28,((X.length+1+(cB cc t (X.length+1)).length+(if b then 0 else 1):Nat):Int),0,0⟩::(cB cc t (X.length+1)++ovr (X.length+1+(cB cc t (X.length+1)).length) (cB cc e (X.length+1+(cB cc t (X.length+1)).length+1)) b)):=by
 rw[Yv]at hY1;have hyl:Y1.length=X.length+1+(cB cc t (X.length+1)).length:=by rw[hY1,bu,Yv]
 rw[hyl]at hZ1 hWF;rw[hWF,hZ1,hY1,BG];simp
theorem aMi{y z:Ins}{V:List Ins}(hZ1:Z1=(X++[y])++V)(hWF:WF=Z1.set X.length z):WF=X++(z::V):=by
 rw[hWF,hZ1,oO,aQi];rfl
end
theorem bF(F:Fl)(C:Cp)(hC:C.Low F)(cb:Nat)(x:Cm)(σ:Scp)(Ab:OA)(qb:Nat)(bs:List St)(ih:∀y∈bs,∀(A:OA) (q:Nat) (l:List Ins),PS.Ty F x σ y.pure→(l++cS (C.cc F) y.pure l.length).length≤1000000→Dz 181 [pv cb, .agg (Ca y).toArray] [box cb (cR F C (vs A l q)) 131,rows Ins.cells 147 4 A q l,all (C.kids F),all (y.kids Be Ca)] (fun v Γ'=>∃(A':OA) (q':Nat),Γ'=[box cb (cR F C (vs A' (l++cS (C.cc F) y.pure l.length) q')) 131,rows Ins.cells 147 4 A' q' (l++cS (C.cc F) y.pure l.length),all (C.kids F)]))(A:OA)(q:Nat)(l:List Ins)(hty:Mh F x σ (Am bs))(hl:(l++cB (C.cc F) (Am bs) l.length).length≤1000000):
    Dz 132 [pv cb,vs Ab bs qb] [box cb (cR F C (vs A l q)) 131,rows Ins.cells 147 4 A q l,all (C.kids F),all (lsG Be Ca Ab bs)] (fun v Γ'=>∃(A':OA) (q':Nat),Γ'=[box cb (cR F C (vs A' (l++cB (C.cc F) (Am bs) l.length) q')) 131,rows Ins.cells 147 4 A' q' (l++cB (C.cc F) (Am bs) l.length),all (C.kids F)]):=by
 rw[bu]at hl;have hal:=WS (C.cc F) bs l.length;refine Ba func132 ntmps132 fun w0=>?_;refine Js (bz 3 rfl (ros Ca Ab bs) rfl (aPc ..) (Jz 7 ?_));refine Bz (fun s g mz ρ Γ=>∃(Aj:OA) (qj:Nat) (lj:List Ins) (j:Nat),ρ=[s 0,s 6,s 7,(8,nv j)]∧Γ=[box cb (cR F C (vs Aj lj qj)) 131,rows Ins.cells 147 4 Aj qj lj,g 3,g 0,g 4]∧mz=bs.length-j∧(j≤bs.length)∧(lj=l++cB (C.cc F) (Am (bs.take j)) l.length)) ⟨⟨A,q,l,0,rfl,rfl,rfl,om,((aPw _).symm)⟩,sb⟩ ?_;rintro mz _ _ ⟨Aj,qj,lj,j,rfl,rfl,rfl,hj,hlj⟩;have hljl:lj.length=l.length+(cB (C.cc F) (Am (bs.take j)) l.length).length:=by rw[hlj,bu]
 refine Jz 6 ?_;refine ax rfl ?_ ?_<;>intro c9;obtain⟨y,hy⟩:=bq bs j om;have hle:=aMg (C.cc F) l.length hy;rw[←hljl]at hle;refine Jz 8 ?_;refine ay fun b5=>?_;refine Jz 3 ?_;refine Cg 5 rfl (y.kids Be Ca) (St.lax Be Ca y) (Lf hy) (Jz 3 ?_);refine az [2,2,2,0] (ih y (av hy) Aj qj lj (sJ hty (av hy)) (by rw[bu];omega)) ?_;rintro _ _ ⟨An,qn,rfl⟩;refine Jz 8 ?_;refine Bp ⟨⟨An,qn,(lj++cS (C.cc F) y.pure lj.length),j+1,rfl,rfl,rfl,om,(by rw[KS _ _ hy,←hljl,←aQi,←hlj])⟩,sb⟩;refine Jz 4 ?_;refine Dr (Da (Dx (.inr rfl) results132 ?_));have hE:lj=l++cB (C.cc F) (Am bs) l.length:=by rw[hlj,aQa om]
 rw[←hE];exact⟨_,_,rfl⟩
theorem oZ(F:Fl)(C:Cp)(hC:C.Low F)(cb:Nat)(x:Cm)(σ:Scp)(Ab:OA)(qb:Nat)(bs:List St)(ih:∀(A:OA) (q:Nat) (l:List Ins),Mh F x σ (Am bs)→(l++cB (C.cc F) (Am bs) l.length).length≤1000000→Dz 132 [pv cb,vs Ab bs qb] [box cb (cR F C (vs A l q)) 131,rows Ins.cells 147 4 A q l,all (C.kids F),all (lsG Be Ca Ab bs)] (fun v Γ'=>∃(A':OA) (q':Nat),Γ'=[box cb (cR F C (vs A' (l++cB (C.cc F) (Am bs) l.length) q')) 131,rows Ins.cells 147 4 A' q' (l++cB (C.cc F) (Am bs) l.length),all (C.kids F)]))(X:List Ins)(A:OA)(q:Nat)(hty:Mh F x σ (Am bs))(hl:(X++ovr X.length (cB (C.cc F) (Am bs) (X.length+1)) (Am bs).isEmpty).length≤1000000):
    Dz 224 [pv cb,vs Ab bs qb] [box cb (cR F C (vs A X q)) 131,rows Ins.cells 147 4 A q X,all (C.kids F),all (lsG Be Ca Ab bs)] (fun v Γ'=>∃(A':OA) (q':Nat),v=nv (X.length+(if(Am bs).isEmpty then 0 else 1))∧Γ'=[box cb (cR F C (vs A' (X++ovr X.length (cB (C.cc F) (Am bs) (X.length+1)) (Am bs).isEmpty) q')) 131,rows Ins.cells 147 4 A' q' (X++ovr X.length (cB (C.cc F) (Am bs) (X.length+1)) (Am bs).isEmpty),all (C.kids F)]):=by
 rw[bu]at hl;have hX1:(X++[(⟨27,0,0,0⟩:Ins)]).length=X.length+1:=Yv ..;refine Ba func224 ntmps224 fun w0=>?_;refine Jz 13 ?_;refine ax rfl ?_ ?_<;>intro c9;refine Jz 12 ?_;refine Da (bv results224 ?_);have he:(Am bs).isEmpty=true:=by rw[Yw];exact aQg om
 have hE:X=X++ovr X.length (cB (C.cc F) (Am bs) (X.length+1)) (Am bs).isEmpty:=by rw[he];exact(aPw _).symm
 rw[←hE,he];exact⟨_,_,rfl,rfl⟩;have hov:=WR X.length (cB (C.cc F) (Am bs) (X.length+1)) (b:=(Am bs).isEmpty) (by rw[Yw];exact aQk om);refine Jz 5 ?_;refine Jr (.bd [ui 27,iv 0,iv 0,iv 0]) ?_;refine az [0,0] (He F C hC cb A q X (⟨27,0,0,0⟩:Ins) (by simp only[bu,bi,ln0];omega)) ?_;rintro _ _ ⟨An,qn,rfl,rfl⟩;refine Jz 17 ?_;refine az [0,0,0,0] (ih An qn (X++[(⟨27,0,0,0⟩:Ins)]) hty (by rw[bu,hX1];omega)) ?_;rintro _ _ ⟨An_2,qn_2,rfl⟩;refine Jz 3 ?_;refine gp ?_;obtain⟨Z1,hZ1⟩:∃z0,z0=((X++[(⟨27,0,0,0⟩:Ins)])++cB (C.cc F) (Am bs) (X++[(⟨27,0,0,0⟩:Ins)]).length):=⟨_,rfl⟩
 rw[←hZ1];refine Jfw [] [0,1,2,4,5,6,7,103,108,9,110,11,512] (af _) ?_;refine Jz 10 ?_;refine Ld rfl (Lc (i:=1) (j:=X.length) rfl rfl rfl s61 rfl (at4 hZ1)) ?_;refine Jz 1 ?_;refine dm rfl rfl rfl (df (i:=1) rfl rfl rfl c3 rfl rfl (Qw (f:=1) (y:=(⟨27,0,0,0⟩:Ins)) (z:=(⟨27,((Z1.length:Nat):Int),0,0⟩:Ins)) iN (at4 hZ1) de rfl)) (af _) ?_;refine Jz 9 ?_;refine gp ?_;obtain⟨WF,hWF⟩:∃z0,z0=(Z1.set X.length (⟨27,((Z1.length:Nat):Int),0,0⟩:Ins)):=⟨_,rfl⟩
 rw[←hWF];have hlWF:WF.length=Z1.length:=by rw[hWF];exact aPh ..
 (try unfold vs);rw[←hlWF]
 refine bv results224 ?_;have he:(Am bs).isEmpty=false:=by rw[Yw];exact aQk om
 have hE:WF=X++ovr X.length (cB (C.cc F) (Am bs) (X.length+1)) (Am bs).isEmpty:=aOl hZ1 hWF he;rw[←hE,he];exact⟨_,_,by rw[Yv];rfl,rfl⟩
theorem HZ(F:Fl)(C:Cp)(hC:C.Low F)(cb:Nat)(x:Cm)(σ:Scp)(s:St)(ihT:∀(A:OA) (q:Nat) (l:List Ins),Mh F x σ (Am s.thn)→(l++cB (C.cc F) (Am s.thn) l.length).length≤1000000→Dz 132 [pv cb,vs s.At s.thn s.qt] [box cb (cR F C (vs A l q)) 131,rows Ins.cells 147 4 A q l,all (C.kids F),all (lsG Be Ca s.At s.thn)] (fun v Γ'=>∃(A':OA) (q':Nat),Γ'=[box cb (cR F C (vs A' (l++cB (C.cc F) (Am s.thn) l.length) q')) 131,rows Ins.cells 147 4 A' q' (l++cB (C.cc F) (Am s.thn) l.length),all (C.kids F)]))(ihE:∀(A:OA) (q:Nat) (l:List Ins),Mh F x σ (Am s.els)→(l++cB (C.cc F) (Am s.els) l.length).length≤1000000→Dz 132 [pv cb,vs s.Ae s.els s.qe] [box cb (cR F C (vs A l q)) 131,rows Ins.cells 147 4 A q l,all (C.kids F),all (lsG Be Ca s.Ae s.els)] (fun v Γ'=>∃(A':OA) (q':Nat),Γ'=[box cb (cR F C (vs A' (l++cB (C.cc F) (Am s.els) l.length) q')) 131,rows Ins.cells 147 4 A' q' (l++cB (C.cc F) (Am s.els) l.length),all (C.kids F)]))(A:OA)(q:Nat)(l:List Ins)(hty:PS.Ty F x σ s.pure)(hl:(l++cS (C.cc F) s.pure l.length).length≤1000000):
    Dz 181 [pv cb, .agg (Ca s).toArray] [box cb (cR F C (vs A l q)) 131,rows Ins.cells 147 4 A q l,all (C.kids F),all (s.kids Be Ca)] (fun v Γ'=>∃(A':OA) (q':Nat),Γ'=[box cb (cR F C (vs A' (l++cS (C.cc F) s.pure l.length) q')) 131,rows Ins.cells 147 4 A' q' (l++cS (C.cc F) s.pure l.length),all (C.kids F)]):=by
 have hT:=AO hty;have hEl:(cS (C.cc F) s.pure l.length).length=(cEs (C.cc F) (Cv s.exprs)).length+1+(Su (C.cc F) s.pure (l.length+(cEs (C.cc F) (Cv s.exprs)).length+1) l.length).length:=by
  rw[wS,bu,bi,show s.pure.exprs=Cv s.exprs by rw[Ju]]
 rw[bu]at hl;have hel:=bD (C.cc F) s.exprs;refine Ba func181 ntmps181 fun w0=>?_;refine Js (dh (Jbo fun b3=>?_));refine Jz 5 ?_;refine Jr (.bd [ui 29,iv 0,iv 0,iv 0]) ?_;refine az [1,1] (He F C hC cb A q l (⟨29,0,0,0⟩:Ins) (by simp only[bu,bi,ln0];omega)) ?_;rintro _ _ ⟨An,qn,rfl,rfl⟩;refine Jz 4 ?_;refine Cg 4 rfl (lsF Be s.A s.exprs) (Mf _ _ _) (Lg s) (Jz 4 ?_);refine az [1,1,2,0] (PX F C hC cb s.A s.q s.exprs An qn (l++[(⟨29,0,0,0⟩:Ins)]) (by rw[bu,Yv];omega)) ?_;rintro _ _ ⟨An_2,qn_2,rfl⟩;refine Jz 10 ?_;refine gp ?_;obtain⟨X,hX⟩:∃z0,z0=((l++[(⟨29,0,0,0⟩:Ins)])++cEs (C.cc F) (Cv s.exprs)):=⟨_,rfl⟩
 rw[←hX];have hXl:X.length=l.length+1+(cEs (C.cc F) (Cv s.exprs)).length:=by rw[hX,bu,Yv]
 have hfin:=aDe (C.cc F) s hX;have hlen:=aPe List.length hfin;rw[bu,bu]at hlen;refine Jz 5 ?_;refine ax rfl ?_ ?_<;>intro k22;have hk:s.kind=1:=om;have htl:=aPe List.length (aEw (c:=(C.cc F)) (n:=X.length) (top:=l.length) hk);rw[List.length_singleton]at htl;refine bz 2 rfl (ros Dc C.Av C.vn) rfl (wT) (Jfw [] [0,1,2,3,5,104,106,307,8,509] (af _) ?_);refine Jz 7 ?_;refine Fw.qf (La C.Av C.qv C.vn s.name _ hC.v rfl) (ag (au 0 rfl) (af _)) ?_;refine di rfl (.bd [ui 24,iv (oI (ixF s.name 0 C.vn)),iv 0,iv 0]) ?_;refine Du [1,1] (He F C hC cb An_2 qn_2 X (⟨24,oI (ixF s.name 0 C.vn),0,0⟩:Ins) (by simp only[bu,bi,ln0];omega)) ?_;rintro _ _ ⟨An_3,qn_3,rfl,rfl⟩;refine⟨af _,?_⟩;refine Jz 2 ?_;refine Gr (Dr (Ck (Dx (.inr rfl) results181 ?_)));have hE:X++[(⟨24,oI (ixF s.name 0 C.vn),0,0⟩:Ins)]=l++cS (C.cc F) s.pure l.length:=by rw[hfin,aEw hk];rfl
 rw[←hE];exact⟨_,_,rfl⟩;refine Jz 6 ?_;refine ax rfl ?_ ?_<;>intro k34;have hk:s.kind=2:=om;have htl:=aPe List.length (aEx (c:=(C.cc F)) (n:=X.length) (top:=l.length) hk);rw[List.length_singleton]at htl;refine bz 2 rfl (ros Dc C.At C.tn) rfl (eU) (Jfw [] [0,1,2,3,5,104,106,307,8,509] (af _) ?_);refine Jz 7 ?_;refine Fw.qf (La C.At C.qt C.tn s.name _ hC.t rfl) (ag (au 0 rfl) (af _)) ?_;refine di rfl (.bd [ui 25,iv (oI (ixF s.name 0 C.tn)),iv 0,iv 0]) ?_;refine Du [1,1] (He F C hC cb An_2 qn_2 X (⟨25,oI (ixF s.name 0 C.tn),0,0⟩:Ins) (by simp only[bu,bi,ln0];omega)) ?_;rintro _ _ ⟨An_4,qn_4,rfl,rfl⟩;refine⟨af _,?_⟩;refine Jz 2 ?_;refine Gr (Dr (Ck (Dx (.inr rfl) results181 ?_)));have hE:X++[(⟨25,oI (ixF s.name 0 C.tn),0,0⟩:Ins)]=l++cS (C.cc F) s.pure l.length:=by rw[hfin,aEx hk];rfl
 rw[←hE];exact⟨_,_,rfl⟩;refine Jz 6 ?_;refine ax rfl ?_ ?_<;>intro k46;have hk:s.kind=3:=om;have htl:=aPe List.length (aEy (c:=(C.cc F)) (n:=X.length) (top:=l.length) hk);rw[List.length_singleton]at htl;refine bz 2 rfl (ros Dc C.At C.tn) rfl (eU) (Jfw [] [0,1,2,3,5,104,106,307,8,509] (af _) ?_);refine Jz 7 ?_;refine Fw.qf (La C.At C.qt C.tn s.name _ hC.t rfl) (ag (au 0 rfl) (af _)) ?_;refine di rfl (.bd [ui 26,iv (oI (ixF s.name 0 C.tn)),iv 0,iv 0]) ?_;refine Du [1,1] (He F C hC cb An_2 qn_2 X (⟨26,oI (ixF s.name 0 C.tn),0,0⟩:Ins) (by simp only[bu,bi,ln0];omega)) ?_;rintro _ _ ⟨An_5,qn_5,rfl,rfl⟩;refine⟨af _,?_⟩;refine Jz 2 ?_;refine Gr (Dr (Ck (Dx (.inr rfl) results181 ?_)));have hE:X++[(⟨26,oI (ixF s.name 0 C.tn),0,0⟩:Ins)]=l++cS (C.cc F) s.pure l.length:=by rw[hfin,aEy hk];rfl
 rw[←hE];exact⟨_,_,rfl⟩;refine Jz 6 ?_;refine ax rfl ?_ ?_<;>intro k58;have hk:s.kind=4:=om;have htl:=aPe List.length (aEz (c:=(C.cc F)) (n:=X.length) (top:=l.length) hk);rw[bi,bu]at htl;refine Jz 3 ?_;refine Jr (.bd [ui 28,iv 0,iv 0,iv 0]) ?_;refine az [0,0] (He F C hC cb An_2 qn_2 X (⟨28,0,0,0⟩:Ins) (by simp only[bu,bi,ln0];omega)) ?_;rintro _ _ ⟨An_6,qn_6,rfl,rfl⟩;refine Jz 4 ?_;refine Cg 4 rfl (lsG Be Ca s.At s.thn) (Dj _ _ _ _) (Ig s) ?_;have hx28:(X++[(⟨28,0,0,0⟩:Ins)]).length=X.length+1:=Yv ..;refine Jz 4 ?_;refine az [1,1,1,0] (ihT An_6 qn_6 (X++[(⟨28,0,0,0⟩:Ins)]) hT.2.1 (by rw[bu,hx28];omega)) ?_;rintro _ _ ⟨An_7,qn_7,rfl⟩;refine Jz 3 ?_;refine gp ?_;obtain⟨Y1,hY1⟩:∃z0,z0=((X++[(⟨28,0,0,0⟩:Ins)])++cB (C.cc F) (Am s.thn) (X++[(⟨28,0,0,0⟩:Ins)]).length):=⟨_,rfl⟩
 rw[←hY1];have hyl:Y1.length=X.length+1+(cB (C.cc F) (Am s.thn) (X.length+1)).length:=by rw[hY1,bu,hx28]
 refine Cg 4 rfl (lsG Be Ca s.Ae s.els) (Dj _ _ _ _) (Gz s) (Jz 4 ?_);refine az [1,1,1,0] (oZ F C hC cb x σ s.Ae s.qe s.els ihE Y1 An_7 qn_7 hT.2.2 (by rw[bu,hyl];omega)) ?_;rintro _ _ ⟨An_8,qn_8,rfl,rfl⟩;refine Jz 3 ?_;refine gp ?_;obtain⟨Z1,hZ1⟩:∃z0,z0=(Y1++ovr Y1.length (cB (C.cc F) (Am s.els) (Y1.length+1)) (Am s.els).isEmpty):=⟨_,rfl⟩
 rw[←hZ1];refine Jz 7 ?_;refine Jr (Lc (i:=1) (j:=X.length) rfl rfl rfl s61 rfl (aMh hY1 hZ1)) ?_;refine Jz 1 ?_;refine To.u (df (i:=1) rfl rfl rfl c3 rfl rfl (Qw (f:=1) (y:=(⟨28,0,0,0⟩:Ins)) (z:=(⟨28,(((Y1.length+(if(Am s.els).isEmpty then 0 else 1)):Nat):Int),0,0⟩:Ins)) iN (aMh hY1 hZ1) de rfl)) ?_;refine Jn (Jbn (gp ?_));obtain⟨WF,hWF⟩:∃z0,z0=(Z1.set X.length (⟨28,(((Y1.length+(if(Am s.els).isEmpty then 0 else 1)):Nat):Int),0,0⟩:Ins)):=⟨_,rfl⟩
 rw[←hWF];have hlWF:WF.length=Z1.length:=by rw[hWF];exact aPh ..
 (try unfold vs);rw[←hlWF]
 refine Dr (Da (Dx (.inr rfl) results181 ?_));have hE:WF=l++cS (C.cc F) s.pure l.length:=by rw[hfin,aEz hk];exact aOm hY1 hZ1 hWF
 rw[←hE];exact⟨_,_,rfl⟩;refine Jz 6 ?_;refine ax rfl ?_ ?_<;>intro k79;have hk:s.kind=5:=om;have htl:=aPe List.length (aFa (c:=(C.cc F)) (n:=X.length) (top:=l.length) hk);rw[bi,bu,List.length_singleton]at htl;refine Jz 3 ?_;refine Jr (.bd [ui 28,iv 0,iv 0,iv 0]) ?_;refine az [0,0] (He F C hC cb An_2 qn_2 X (⟨28,0,0,0⟩:Ins) (by simp only[bu,bi,ln0];omega)) ?_;rintro _ _ ⟨An_9,qn_9,rfl,rfl⟩;refine Jz 4 ?_;refine Cg 4 rfl (lsG Be Ca s.At s.thn) (Dj _ _ _ _) (Ig s) ?_;have hx28:(X++[(⟨28,0,0,0⟩:Ins)]).length=X.length+1:=Yv ..;refine Jz 4 ?_;refine az [1,1,1,0] (ihT An_9 qn_9 (X++[(⟨28,0,0,0⟩:Ins)]) hT.2.1 (by rw[bu,hx28];omega)) ?_;rintro _ _ ⟨An_10,qn_10,rfl⟩;refine Jz 3 ?_;refine gp ?_;obtain⟨Y1,hY1⟩:∃z0,z0=((X++[(⟨28,0,0,0⟩:Ins)])++cB (C.cc F) (Am s.thn) (X++[(⟨28,0,0,0⟩:Ins)]).length):=⟨_,rfl⟩
 rw[←hY1];have hyl:Y1.length=X.length+1+(cB (C.cc F) (Am s.thn) (X.length+1)).length:=by rw[hY1,bu,hx28]
 refine Jz 3 ?_;refine Jr (.bd [ui 27,nv l.length,iv 0,iv 0]) ?_;refine az [0,0] (He F C hC cb An_10 qn_10 Y1 (⟨27,((l.length:Nat):Int),0,0⟩:Ins) (by simp only[bu,bi,ln0];omega)) ?_;rintro _ _ ⟨An_11,qn_11,rfl,rfl⟩;refine Jn (Jt (Jfw [] [0,1,2,4,5,6,7,103,108,9,110,11,512] (af _) ?_));refine Jz 10 ?_;refine Ld rfl (Lc (i:=1) (j:=X.length) rfl rfl rfl s61 rfl (aMf hY1)) ?_;refine Jz 1 ?_;refine dm rfl rfl rfl (df (i:=1) rfl rfl rfl c3 rfl rfl (Qw (f:=1) (y:=(⟨28,0,0,0⟩:Ins)) (z:=(⟨28,(((Y1++[(⟨27,((l.length:Nat):Int),0,0⟩:Ins)]).length:Nat):Int),0,0⟩:Ins)) iN (aMf hY1) de rfl)) (af _) ?_;refine Jz 2 ?_;refine gp ?_;obtain⟨WF,hWF⟩:∃z0,z0=((Y1++[(⟨27,((l.length:Nat):Int),0,0⟩:Ins)]).set X.length (⟨28,(((Y1++[(⟨27,((l.length:Nat):Int),0,0⟩:Ins)]).length:Nat):Int),0,0⟩:Ins)):=⟨_,rfl⟩
 rw[←hWF];have hlWF:WF.length=(Y1++[(⟨27,((l.length:Nat):Int),0,0⟩:Ins)]).length:=by rw[hWF];exact aPh ..
 (try unfold vs);rw[←hlWF]
 refine Dr (Da (Dx (.inr rfl) results181 ?_));have hE:WF=l++cS (C.cc F) s.pure l.length:=by rw[hfin,aFa hk];exact aOk hY1 hWF
 rw[←hE];exact⟨_,_,rfl⟩;refine Jz 6 ?_;refine ax rfl ?_ ?_<;>intro k104;have hk:s.kind=6:=om;have htl:=aPe List.length (aFb (c:=(C.cc F)) (n:=X.length) (top:=l.length) hk);rw[List.length_singleton]at htl;obtain⟨c,h',hfc,hfh,hhl⟩:=hT.1.k6 hk;obtain⟨to,hto,hcm⟩:=aFf (f:=Cm.name) (k:=0) hfc;rw[aQl]at hto;have htl2:to<C.hs.length:=by rw[hC.h];exact(aOz.1 hcm).1
 obtain⟨hn,hhn⟩:∃hn,C.hs[to]?=some hn:=⟨_,gge htl2⟩
 have htg:(C.cc F).tg s.name s.hand=(((to:Nat):Int),oI (ixF s.hand 0 hn.l)):=by
  show(oI (ixF s.name 0 (F.comps.map Cm.name)),oI (ixF s.hand 0 (BJ C (oI (ixF s.name 0 (F.comps.map Cm.name))).toNat)))=_;rw[hto];show(((to:Nat):Int),oI (ixF s.hand 0 (BJ C to)))=_;rw[KV hhn]
 refine Js (bz 2 rfl (ros Gm F.Ac F.comps) rfl (aDh) (Nz (Zd (Jz 6 ?_))));refine Jr (Rd.makeFunc rfl rfl rfl) ?_;refine Jvf (PW b3 s F.Ac F.qc F.comps (some to) hC.c hto) rfl (ag (au 1 rfl) (ag (au 0 rfl) (af _))) ?_;refine Jz 3 ?_;refine bz 4 rfl (ros Wy C.Ah C.hs) rfl (KT) (bz 5 rfl (ros Dc hn.A hn.l) rfl (KU hhn) (Jfw [] [0,1,2,3,4,6,9,12,105,107,108,110,311,113,14,15,516] (af _) ?_));refine Jz 11 ?_;refine Ld rfl (Cu (i:=2) rfl rfl c9 rfl (Eb (A:=some ⟨b3,0,none⟩) (o:=2) (k:=1) rfl)) ?_;refine Fw.qf (La hn.A hn.q hn.l s.hand _ (hC.each hn (av hhn)) rfl) (ag (au 0 rfl) (af _)) ?_;refine Ld rfl (Cu (i:=2) rfl rfl Sz rfl (Eb (A:=some ⟨b3,0,none⟩) (o:=3) (k:=1) rfl)) ?_;refine Jz 1 ?_;refine di rfl (.bd [ui 30,nv to,iv (oI (ixF s.hand 0 hn.l)),nv s.exprs.length]) ?_;refine Du [4,4] (He F C hC cb An_2 qn_2 X (⟨30,((to:Nat):Int),oI (ixF s.hand 0 hn.l),((s.exprs.length:Nat):Int)⟩:Ins) (by simp only[bu,bi,ln0];omega)) ?_;rintro _ _ ⟨An_12,qn_12,rfl,rfl⟩;refine⟨af _,?_⟩;refine Jz 2 ?_;refine Xq (Gr (Dr (Da (Ck (Dx (.inr rfl) results181 ?_)))));have hE:X++[(⟨30,((to:Nat):Int),oI (ixF s.hand 0 hn.l),((s.exprs.length:Nat):Int)⟩:Ins)]=l++cS (C.cc F) s.pure l.length:=by rw[hfin,aFb hk];rw[htg]
 rw[←hE];exact⟨_,_,rfl⟩;refine Jz 6 ?_;refine ax rfl ?_ ?_<;>intro k130;have hk:s.kind=7:=om;have htl:=aPe List.length (aFc (c:=(C.cc F)) (n:=X.length) (top:=l.length) hk);rw[List.length_singleton]at htl;obtain⟨hn,hhn⟩:∃hn,C.hs[C.own]?=some hn:=⟨_,gge hC.o⟩
 have htg:(C.cc F).ah s.hand=oI (ixF s.hand 0 hn.l):=by
  show oI (ixF s.hand 0 (BJ C C.own))=_;rw[KV hhn]
 refine bz 2 rfl (ros Wy C.Ah C.hs) rfl (KT) (bz 3 rfl (ros Dc hn.A hn.l) rfl (KU hhn) (Jfw [] [0,1,2,3,5,6,7,11,14,104,108,109,110,112,313,115,16,17,18,519] (af _) ?_));refine Jz 14 ?_;refine Fw.qf (La hn.A hn.q hn.l s.hand _ (hC.each hn (av hhn)) rfl) (ag (au 0 rfl) (af _)) ?_;refine Jz 2 ?_;refine di rfl (Ev rfl rfl rfl om) ?_;refine di rfl (.bd [ui 31,iv 0,iv (oI (ixF s.hand 0 hn.l)),iv (((s.exprs.length:Nat):Int)-1)]) ?_;refine Du [2,2] (He F C hC cb An_2 qn_2 X (⟨31,0,oI (ixF s.hand 0 hn.l),((s.exprs.length:Nat):Int)-1⟩:Ins) (by simp only[bu,bi,ln0];omega)) ?_;rintro _ _ ⟨An_13,qn_13,rfl,rfl⟩;refine⟨af _,?_⟩;refine Jz 2 ?_;refine Ko (Gr (Da (Ck (Dx (.inr rfl) results181 ?_))));have hE:X++[(⟨31,0,oI (ixF s.hand 0 hn.l),((s.exprs.length:Nat):Int)-1⟩:Ins)]=l++cS (C.cc F) s.pure l.length:=by rw[hfin,aFc hk];rw[htg]
 rw[←hE];exact⟨_,_,rfl⟩;refine Jz 6 ?_;refine ax rfl ?_ ?_<;>intro k152;have hk:s.kind=8:=om;have htl:=aPe List.length (aFd (c:=(C.cc F)) (n:=X.length) (top:=l.length) hk);rw[bi]at htl;refine Jz 3 ?_;refine Jr (.bd [ui 32,iv 0,iv 0,iv 0]) ?_;refine az [0,0] (He F C hC cb An_2 qn_2 X (⟨32,0,0,0⟩:Ins) (by simp only[bu,bi,ln0];omega)) ?_;rintro _ _ ⟨An_14,qn_14,rfl,rfl⟩;refine Jz 4 ?_;refine Cg 4 rfl (lsG Be Ca s.Ae s.els) (Dj _ _ _ _) (Gz s) (Jz 4 ?_);refine az [1,1,1,0] (oZ F C hC cb x σ s.Ae s.qe s.els ihE (X++[(⟨32,0,0,0⟩:Ins)]) An_14 qn_14 hT.2.2 (by rw[bu,Yv,show X.length+1+1=X.length+2 from rfl];omega)) ?_;rintro _ _ ⟨An_15,qn_15,rfl,rfl⟩;refine Jz 3 ?_;refine gp ?_;obtain⟨Z1,hZ1⟩:∃z0,z0=((X++[(⟨32,0,0,0⟩:Ins)])++ovr (X++[(⟨32,0,0,0⟩:Ins)]).length (cB (C.cc F) (Am s.els) ((X++[(⟨32,0,0,0⟩:Ins)]).length+1)) (Am s.els).isEmpty):=⟨_,rfl⟩
 rw[←hZ1];refine Jz 7 ?_;refine Jr (Lc (i:=1) (j:=X.length) rfl rfl rfl s61 rfl (at4 hZ1)) ?_;refine Jz 1 ?_;refine To.u (df (i:=1) rfl rfl rfl c3 rfl rfl (Qw (f:=2) (y:=(⟨32,0,0,0⟩:Ins)) (z:=(⟨32,0,((((X++[(⟨32,0,0,0⟩:Ins)]).length+(if(Am s.els).isEmpty then 0 else 1)):Nat):Int),0⟩:Ins)) iN (at4 hZ1) de rfl)) ?_;refine Jn (Jbn (gp ?_));obtain⟨WF,hWF⟩:∃z0,z0=(Z1.set X.length (⟨32,0,((((X++[(⟨32,0,0,0⟩:Ins)]).length+(if(Am s.els).isEmpty then 0 else 1)):Nat):Int),0⟩:Ins)):=⟨_,rfl⟩
 rw[←hWF];have hlWF:WF.length=Z1.length:=by rw[hWF];exact aPh ..
 (try unfold vs);rw[←hlWF]
 refine Dr (Da (Dx (.inr rfl) results181 ?_));have hE:WF=l++cS (C.cc F) s.pure l.length:=by rw[hfin,aFd hk];rw[Yv]at hZ1 hWF;exact aMi hZ1 hWF
 rw[←hE];exact⟨_,_,rfl⟩;refine Jz 6 ?_;refine ax rfl ?_ ?_<;>intro k169;have hk:s.kind=9:=om;have htl:=aPe List.length (aFe (c:=(C.cc F)) (n:=X.length) (top:=l.length) hk);rw[bi]at htl;refine Js (bz 2 rfl (ros Dc C.Av C.vn) rfl (wT) (Jfw [] [0,1,2,3,5,104,106,307,8,509,10] (af _) ?_));refine Jz 7 ?_;refine Fw.qf (La C.Av C.qv C.vn s.name _ hC.v rfl) (ag (au 0 rfl) (af _)) ?_;refine di rfl (.bd [ui 33,iv (oI (ixF s.name 0 C.vn)),iv 0,iv 0]) ?_;refine Du [1,1] (He F C hC cb An_2 qn_2 X (⟨33,oI (ixF s.name 0 C.vn),0,0⟩:Ins) (by simp only[bu,bi,ln0];omega)) ?_;rintro _ _ ⟨An_16,qn_16,rfl,rfl⟩;refine⟨af _,?_⟩;refine Jz 4 ?_;refine Cg 5 rfl (lsG Be Ca s.Ae s.els) (Dj _ _ _ _) (Gz s) (Jz 4 ?_);refine az [1,1,2,0] (oZ F C hC cb x σ s.Ae s.qe s.els ihE (X++[(⟨33,oI (ixF s.name 0 C.vn),0,0⟩:Ins)]) An_16 qn_16 hT.2.2 (by rw[bu,Yv,show X.length+1+1=X.length+2 from rfl];omega)) ?_;rintro _ _ ⟨An_17,qn_17,rfl,rfl⟩;refine Jz 3 ?_;refine gp ?_;obtain⟨Z1,hZ1⟩:∃z0,z0=((X++[(⟨33,oI (ixF s.name 0 C.vn),0,0⟩:Ins)])++ovr (X++[(⟨33,oI (ixF s.name 0 C.vn),0,0⟩:Ins)]).length (cB (C.cc F) (Am s.els) ((X++[(⟨33,oI (ixF s.name 0 C.vn),0,0⟩:Ins)]).length+1)) (Am s.els).isEmpty):=⟨_,rfl⟩
 rw[←hZ1];refine Jz 7 ?_;refine Jr (Lc (i:=1) (j:=X.length) rfl rfl rfl s61 rfl (at4 hZ1)) ?_;refine Jz 1 ?_;refine To.u (df (i:=1) rfl rfl rfl c3 rfl rfl (Qw (f:=2) (y:=(⟨33,oI (ixF s.name 0 C.vn),0,0⟩:Ins)) (z:=(⟨33,oI (ixF s.name 0 C.vn),((((X++[(⟨33,oI (ixF s.name 0 C.vn),0,0⟩:Ins)]).length+(if(Am s.els).isEmpty then 0 else 1)):Nat):Int),0⟩:Ins)) iN (at4 hZ1) de rfl)) ?_;refine Jn (Jbn (gp ?_));obtain⟨WF,hWF⟩:∃z0,z0=(Z1.set X.length (⟨33,oI (ixF s.name 0 C.vn),((((X++[(⟨33,oI (ixF s.name 0 C.vn),0,0⟩:Ins)]).length+(if(Am s.els).isEmpty then 0 else 1)):Nat):Int),0⟩:Ins)):=⟨_,rfl⟩
 rw[←hWF];have hlWF:WF.length=Z1.length:=by rw[hWF];exact aPh ..
 (try unfold vs);rw[←hlWF]
 refine Gr (Dr (Da (Dx (.inr rfl) results181 ?_)));have hE:WF=l++cS (C.cc F) s.pure l.length:=by rw[hfin,aFe hk];rw[Yv]at hZ1 hWF;exact aMi hZ1 hWF
 rw[←hE];exact⟨_,_,rfl⟩;refine Jz 6 ?_;refine ax rfl ?_ ?_<;>intro k193;have hk:s.kind=10:=om;have htl:=aPe List.length (WQ (c:=(C.cc F)) (n:=X.length) (top:=l.length) hk);rw[List.length_singleton]at htl;refine Jz 2 ?_;refine Jr (.bd [ui 34,iv 0,iv 0,iv 0]) ?_;refine az [0,0] (He F C hC cb An_2 qn_2 X (⟨34,0,0,0⟩:Ins) (by simp only[bu,bi,ln0];omega)) ?_;rintro _ _ ⟨An_18,qn_18,rfl,rfl⟩;refine Jn (Jbn (Dr (Da (Dx (.inr rfl) results181 ?_))));have hE:X++[(⟨34,0,0,0⟩:Ins)]=l++cS (C.cc F) s.pure l.length:=by rw[hfin,WQ hk]
 rw[←hE];exact⟨_,_,rfl⟩;refine Jz 2 ?_;refine Dr (Da (Dx (.inr rfl) results181 ?_));have hk:¬s.kind=1∧¬s.kind=2∧¬s.kind=3∧¬s.kind=4∧¬s.kind=5∧¬s.kind=6∧¬s.kind=7∧¬s.kind=8∧¬s.kind=9∧¬s.kind=10:=om;have hE:X=l++cS (C.cc F) s.pure l.length:=by rw[hfin,aMe hk];exact(aPw _).symm
 rw[←hE];exact⟨_,_,rfl⟩
theorem pE(F:Fl)(C:Cp)(hC:C.Low F)(cb:Nat)(x:Cm)(σ:Scp):∀s:St,∀(A:OA) (q:Nat) (l:List Ins),PS.Ty F x σ s.pure→(l++cS (C.cc F) s.pure l.length).length≤1000000→Dz 181 [pv cb, .agg (Ca s).toArray] [box cb (cR F C (vs A l q)) 131,rows Ins.cells 147 4 A q l,all (C.kids F),all (s.kids Be Ca)] (fun v Γ'=>∃(A':OA) (q':Nat),Γ'=[box cb (cR F C (vs A' (l++cS (C.cc F) s.pure l.length) q')) 131,rows Ins.cells 147 4 A' q' (l++cS (C.cc F) s.pure l.length),all (C.kids F)])
 |s,A,q,l,ht,hl=>HZ F C hC cb x σ s (fun A q l ht hl=>bF F C hC cb x σ s.At s.qt s.thn (fun y hy=>pE F C hC cb x σ y) A q l ht hl) (fun A q l ht hl=>bF F C hC cb x σ s.Ae s.qe s.els (fun y hy=>pE F C hC cb x σ y) A q l ht hl) A q l ht hl
termination_by s=>SizeOf.sizeOf s
decreasing_by
 all_goals
  cases s with
  | mk k n h A q es At qt t Ae qe e=>
    have:=aQr hy;dsimp only at this;simp only[St.mk.sizeOf_spec];omega
theorem WY(F:Fl)(C:Cp)(hC:C.Low F)(cb:Nat)(x:Cm)(σ:Scp)(Ab:OA)(qb:Nat)(bs:List St):∀(A:OA) (q:Nat) (l:List Ins),Mh F x σ (Am bs)→(l++cB (C.cc F) (Am bs) l.length).length≤1000000→Dz 132 [pv cb,vs Ab bs qb] [box cb (cR F C (vs A l q)) 131,rows Ins.cells 147 4 A q l,all (C.kids F),all (lsG Be Ca Ab bs)] (fun v Γ'=>∃(A':OA) (q':Nat),Γ'=[box cb (cR F C (vs A' (l++cB (C.cc F) (Am bs) l.length) q')) 131,rows Ins.cells 147 4 A' q' (l++cB (C.cc F) (Am bs) l.length),all (C.kids F)]):=fun A q l ht hl=>bF F C hC cb x σ Ab qb bs (fun y hy=>pE F C hC cb x σ y) A q l ht hl
end Go.Proofs.YtihgdnjkofpgiaaGreatDoor

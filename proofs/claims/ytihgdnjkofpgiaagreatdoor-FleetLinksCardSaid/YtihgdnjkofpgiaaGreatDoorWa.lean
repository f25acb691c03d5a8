/- Own text. -/
import Derived.Test.YtihgdnjkofpgiaaGreatDoorVb
import Derived.Test.YtihgdnjkofpgiaaGreatDoorRb
import Derived.Test.YtihgdnjkofpgiaaGreatDoorH5
set_option maxHeartbeats 8000000
set_option maxRecDepth 100000
set_option linter.unusedVariables false
set_option linter.unusedSimpArgs false
namespace Go.Proofs.YtihgdnjkofpgiaaGreatDoor
open Go.Proofs.Tryz
open Go.RowKit Go.Flow Go.Mem Go.Sep Go.In
structure HN where
 A:OA
 q:Nat
 l:List yB
def Vx(e:HN):List vU:=[vs e.A e.l e.q]
instance VS:Enc Vx 1:=⟨fun _=>rfl,fun e u hu=>by
 simp only[Vx,aNx,aOe,aPh]at hu;subst hu;rfl⟩
structure Cp where
 Ah:OA
 qh:Nat
 hs:List HN
 own:Nat
 Av:OA
 qv:Nat
 vn:List yB
 At:OA
 qt:Nat
 tn:List yB
 Af:OA
 qf:Nat
 fn:List yB
 Ap:OA
 qp:Nat
 ps:List yB
def zP(C:Cp)(i:Nat):List yB:=((C.hs.map HN.l)[i]?).getD []
def Cp.cc(F:Fl)(C:Cp):Cc where
 pn s:=match bi s 0 C.ps with|some k=>⟨3,(k:Int),0,0⟩|none=>match bi s 0 C.vn with|some k=>⟨2,(k:Int),0,0⟩|none=>⟨4,oI (bi s 0 C.fn),0,0⟩
 vs s:=oI (bi s 0 C.vn)
 ts s:=oI (bi s 0 C.tn)
 tg c h:=(oI (bi c 0 (F.comps.map Cm.name)),oI (bi h 0 (zP C (oI (bi c 0 (F.comps.map Cm.name))).toNat)))
 ah h:=oI (bi h 0 (zP C C.own))
def Cp.kids(F:Fl)(C:Cp):List Ad:=ros Da C.Ap C.ps::ros Da C.Av C.vn::ros Da C.At C.tn::ros Da C.Af C.fn::ros Vx C.Ah C.hs::ros Gu F.Ac F.comps::C.hs.map (fun h=>ros Da h.A h.l)
theorem jK{α:Type}{f:α→List vU}{A:OA}{l:List α}:Lax [ros f A l]:=eu rfl Lax.nil
theorem dL{α β:Type}(f:α→β):∀l:List α,l.map f=l.flatMap fun x=>[f x]
 |[]=>rfl
 |x::r=>by rw[aOw,aPl,dL f r];rfl
theorem Cp.lax(F:Fl)(C:Cp):Lax (C.kids F):=eu rfl (eu rfl (eu rfl (eu rfl (eu rfl (eu rfl (by rw[dL];exact Gp fun h _=>jK))))))
abbrev cR(F:Fl)(C:Cp)(x:Value):List Value:=cF F [vs C.Ah C.hs C.qh,nv C.own,vs C.Av C.vn C.qv,vs C.At C.tn C.qt,vs C.Af C.fn C.qf,vs C.Ap C.ps C.qp,x]
structure Cp.Low(F:Fl)(C:Cp):Prop where
 p:C.ps.length≤12
 v:C.vn.length≤12
 t:C.tn.length≤12
 f:C.fn.length≤12
 c:F.comps.length≤12
 h:C.hs.length=F.comps.length
 o:C.own<C.hs.length
 each:∀h∈C.hs,h.l.length≤12
section
variable{F:Fl}{C:Cp}
theorem aCc:ros Da C.Ap C.ps∈C.kids F:=aNu ..
theorem vQ:ros Da C.Av C.vn∈C.kids F:=aNs _ (aNu ..)
theorem dM:ros Da C.At C.tn∈C.kids F:=aNs _ (aNs _ (aNu ..))
theorem aCd:ros Da C.Af C.fn∈C.kids F:=aNs _ (aNs _ (aNs _ (aNu ..)))
theorem JY:ros Vx C.Ah C.hs∈C.kids F:=aNs _ (aNs _ (aNs _ (aNs _ (aNu ..))))
theorem aCe:ros Gu F.Ac F.comps∈C.kids F:=aNs _ (aNs _ (aNs _ (aNs _ (aNs _ (aNu ..)))))
theorem JZ{i:Nat}{h:HN}(hh:C.hs[i]?=some h):ros Da h.A h.l∈C.kids F:=aNs _ (aNs _ (aNs _ (aNs _ (aNs _ (aNs _ (aOm.2 ⟨h,sN hh,rfl⟩))))))
theorem KA{i:Nat}{h:HN}(hh:C.hs[i]?=some h):zP C i=h.l:=by unfold zP;rw[aOf,hh];rfl
end
theorem aEc{α:Type}{f:α→yB}{s:yB}:∀{l:List α} {k:Nat} {c:α},l.find? (fun y:α=>decide (f y=s))=some c→∃j,bi s k (l.map f)=some (k+j)∧l[j]?=some c
 |[],_,_,h=>by cases h
 | x ::r,k,c,h=>by
   by_cases hx:f x=s
   · rw[List.find?_cons_of_pos (by simpa using hx)]at h
     exact⟨0,by rw[aOw,bi,aOn hx];rfl,h⟩
   · rw[List.find?_cons_of_neg (by simpa using hx)]at h
     obtain⟨j,h1,h2⟩:=aEc (k:=k+1) h;exact⟨j+1,by rw[aOw,bi,aNy hx,h1];congr 1;omega,h2⟩
structure PU where
 np:Nat
 st:Int
 A:OA
 q:Nat
 l:List Ins
def zPU:PU:=⟨0,0,none,0,[]⟩
def Uf(u:PU):List vU:=[nv u.np,iv u.st,vs u.A u.l u.q]
instance dN:Enc Uf 3:=⟨fun _=>rfl,fun e u hu=>by
 simp only[Uf,aNx,aOe,aPh]at hu;rcases hu with rfl|rfl|rfl<;>rfl⟩
structure PV where
 A:OA
 q:Nat
 l:List PU
def zQ(e:PV):List vU:=[vs e.A e.l e.q]
instance zR:Enc zQ 1:=⟨fun _=>rfl,fun e u hu=>by
 simp only[zQ,aNx,aOe,aPh]at hu;subst hu;rfl⟩
structure PB where
 A:OA
 q:Nat
 l:List Bool
def zS(e:PB):List vU:=[vs e.A e.l e.q]
instance zT:Enc zS 1:=⟨fun _=>rfl,fun e u hu=>by
 simp only[zS,aNx,aOe,aPh]at hu;subst hu;rfl⟩
def Vy(b:Bool):List vU:=[.bool b]
instance nV:Enc Vy 1:=⟨fun _=>rfl,fun e u hu=>by
 simp only[Vy,aNx,aOe,aPh]at hu;subst hu;rfl⟩
structure PP where
 An:OA
 qn:Nat
 names:List yB
 Au:OA
 qu:Nat
 us:List PV
 Af:OA
 qf:Nat
 fs:List PB
def dO(e:PP):List vU:=[vs e.An e.names e.qn,vs e.Au e.us e.qu,vs e.Af e.fs e.qf]
instance zU:Enc dO 3:=⟨fun _=>rfl,fun e u hu=>by
 simp only[dO,aNx,aOe,aPh]at hu;rcases hu with rfl|rfl|rfl<;>rfl⟩
def kUs(l:List PU):List Ad:=l.flatMap fun u=>[ros Ins.cells u.A u.l]
def PV.kids(v:PV):List Ad:=ros Uf v.A v.l::kUs v.l
def PP.kids(c:PP):List Ad:=ros Da c.An c.names::ros zQ c.Au c.us::ros zS c.Af c.fs::(c.us.flatMap PV.kids++c.fs.flatMap fun b=>[ros Vy b.A b.l])
theorem jL(l:List PU):Lax (kUs l):=Gp fun _ _=>jK
theorem PV.lax(v:PV):Lax v.kids:=eu rfl (jL _)
theorem VT(F:Fl)(C:Cp)(hC:C.Low F)(cb:Nat)(A:OA)(q:Nat)(l:List Ins)(op:Nat)(x y n:Int)(hl:(l++[(⟨op,x,y,n⟩:Ins)]).length≤1000000):
    Dz 222 [pv cb, .agg #[ub op,iv x,iv y,iv n]] [box cb (cR F C (vs A l q)) 131,rows Ins.cells 147 4 A q l] (fun v Γ'=>∃(A':OA) (q':Nat),v=nv l.length∧Γ'=[box cb (cF F [vs C.Ah C.hs C.qh,nv C.own,vs C.Av C.vn C.qv,vs C.At C.tn C.qt,vs C.Af C.fn C.qf,vs C.Ap C.ps C.qp,vs A' (l++[(⟨op,x,y,n⟩:Ins)]) q']) 131,rows Ins.cells 147 4 A' q' (l++[(⟨op,x,y,n⟩:Ins)])]):=by
 rw[aj]at hl;have hl2:l.length+1≤1000000:=hl;have hl3:(l++[(⟨op,x,y,n⟩:Ins)]).length=l.length+1:=by rw[aj];rfl
 refine Ba func222 ntmps222 fun w0=>?_;refine Js (cz (Jbo fun b3=>?_));refine Jz 4 ?_;refine Jfw [] [0,1,2,3,104,105,206,7507,8,9,510] (jP _) ?_;refine Jz 6 ?_;refine En [ub op,iv x,iv y,iv n] fun b11=>?_;refine Fw.ge rfl rfl rfl rfl (Bz qU (i:=3) (j:=0) (el:=(⟨op,x,y,n⟩:Ins)) rfl s61 rfl rfl rfl rfl rfl om om) ?_;rintro _ _ ⟨A12,q12,rfl,rfl⟩;refine⟨jP _,?_⟩;refine Jz 2 ?_;refine dh rfl rfl rfl (cu (i:=2) rfl rfl rfl c61 rfl rfl (bt1 rfl)) (jP _) ?_;refine Jz 9 ?_;refine Jr (Fh rfl rfl rfl om) ?_;refine Jz 4 ?_;refine Ci (Cg (ak results222 ?_));exact⟨_,_,by rw[hl3];congr 1;omega,rfl⟩
theorem Gx(F:Fl)(C:Cp)(hC:C.Low F)(cb:Nat)(A:OA)(q:Nat)(l:List Ins)(x:Ins)(hl:(l++[x]).length≤1000000):Dz 222 [pv cb, .agg (Ins.cells x).toArray] [box cb (cR F C (vs A l q)) 131,rows Ins.cells 147 4 A q l] (fun v Γ'=>∃(A':OA) (q':Nat),v=nv l.length∧Γ'=[box cb (cF F [vs C.Ah C.hs C.qh,nv C.own,vs C.Av C.vn C.qv,vs C.At C.tn C.qt,vs C.Af C.fn C.qf,vs C.Ap C.ps C.qp,vs A' (l++[x]) q']) 131,rows Ins.cells 147 4 A' q' (l++[x])]):=VT F C hC cb A q l x.op x.a x.b x.n hl
theorem aCf(b:Nat)(s:St)(x:Cm):
    Dz 226 [.agg (Gu x).toArray,pv b] [ro (some ⟨b,0,none⟩) (Bl s)] (fun v _=>v= .bool (decide (x.name=s.name))):=by
 refine Ba func226 ntmps226 fun w0=>?_;refine Js (cz (Jbo fun b2=>?_));refine Jz 8 ?_;refine Jr (Cq (i:=1) rfl rfl c9 rfl (Ev (A:=some ⟨b,0,none⟩) (o:=1) (k:=1) rfl)) ?_;refine Jr (Jb rfl rfl rfl) ?_;refine Jz 4 ?_;refine ak results226 ?_;rfl
theorem OV(b:Nat)(s:St)(A:OA)(q:Nat)(l:List Cm)(o:oP Nat)(hl:l.length≤12)(ho:bi s.name 0 (l.map Cm.name)=o):
    Dz 225 [vs A l q, .func (.func 226) #[] #[pv b]] [ros Gu A l,ro (some ⟨b,0,none⟩) (Bl s)] (fun v _=>v=iv (oI o)):=by
 refine Ba func225 ntmps225 fun w0=>?_;refine Jz 14 ?_;refine Il (fun u g mz ρ Γ=>∃(k:Nat),ρ=[u 0,u 1,u 6,u 7,(8,nv k)]∧Γ=[g 0,g 1]∧mz=l.length-k∧(k≤l.length)∧(bi s.name k ((l.map Cm.name).drop k)=o)) ⟨⟨0,rfl,rfl,rfl,(aOk _),ho⟩,sb⟩ ?_;rintro mz _ _ ⟨k,rfl,rfl,rfl,hk,ho⟩;refine Jz 6 ?_;refine aa rfl ?_ ?_<;>intro k9;obtain⟨y,hy⟩:=ai l k om;refine Jz 17 ?_;refine JcV rfl rfl rfl (di (first:=[]) (captured:=[pv b]) rfl rfl rfl (kc.h 226 rfl)) (aCf b s y) rfl (jS (lS 1 rfl) (jP _)) (Jn (Jt (aa rfl (fun k16=>?_) (fun k16=>?_))));refine Jz 12 ?_;refine ak results225 ?_;rw[show o=some k from by rw[←ho];exact vI (by rw[aOf,hy,←k16];rfl)];rfl;refine Jz 8 ?_;refine Dc ⟨⟨k+1,rfl,rfl,rfl,om,(by rw[←JM (x:=y.name) (by rw[aOf,hy];rfl) k16];exact ho)⟩,sb⟩;refine Jz 11 ?_;refine ak results225 ?_;rw[show o=none from by rw[←ho];exact vJ (by rw[aNv];omega)];rfl
theorem VU(F:Fl)(C:Cp)(hC:C.Low F)(cb:Nat)(A:OA)(q:Nat)(l:List Ins)(s:yB)(hl:(l++[(C.cc F).pn s]).length≤1000000):
    Dz 250 [pv cb, .string s] [box cb (cR F C (vs A l q)) 131,rows Ins.cells 147 4 A q l,all (C.kids F)] (fun v Γ'=>∃(A':OA) (q':Nat),Γ'=[box cb (cF F [vs C.Ah C.hs C.qh,nv C.own,vs C.Av C.vn C.qv,vs C.At C.tn C.qt,vs C.Af C.fn C.qf,vs C.Ap C.ps C.qp,vs A' (l++[(C.cc F).pn s]) q']) 131,rows Ins.cells 147 4 A' q' (l++[(C.cc F).pn s]),all (C.kids F)]):=by
 rw[aj]at hl;have hl2:l.length+1≤1000000:=hl;refine Ba func250 ntmps250 fun w0=>?_;refine Js (bv 2 rfl (ros Da C.Ap C.ps) rfl (aCc) (Jz 6 ?_));refine Jvf (Kv C.Ap C.qp C.ps s _ hC.p rfl) rfl (jS (lS 0 rfl) (jP _)) ?_;refine Jz 6 ?_;refine Jr (Cs (v':= .bool (bi s 0 C.ps).isSome) (aOa Value.bool (JN _)) (Rd.geq rfl rfl rfl)) ?_;refine Jn (Jt (Ee rfl (fun c13=>?_) (fun c13=>?_)));refine Jz 3 ?_;refine Jr (.bd [ui 3,iv (oI (bi s 0 C.ps)),iv 0,iv 0]) ?_;refine af [1,1] (Gx F C hC cb A q l (⟨3,oI (bi s 0 C.ps),0,0⟩:Ins) (by simp only[aj,ag,bg];omega)) ?_;rintro _ _ ⟨An,qn,rfl,rfl⟩;refine Jn (Cb (Dr (.inr rfl) results250 ?_));obtain⟨k,hk⟩:=aQi.1 c13;have hp:(C.cc F).pn s=⟨3,oI (bi s 0 C.ps),0,0⟩:=by show(match bi s 0 C.ps with|some k=>_|none=>_)=_;rw[hk];rfl
 rw[hp];exact⟨_,_,rfl⟩;refine Js (bv 3 rfl (ros Da C.Av C.vn) rfl (vQ) (Jz 6 ?_));refine Jvf (Kv C.Av C.qv C.vn s _ hC.v rfl) rfl (jS (lS 0 rfl) (jP _)) ?_;refine Jz 6 ?_;refine Jr (Cs (v':= .bool (bi s 0 C.vn).isSome) (aOa Value.bool (JN _)) (Rd.geq rfl rfl rfl)) ?_;refine Jn (Jt (Ee rfl (fun c25=>?_) (fun c25=>?_)));refine Jz 3 ?_;refine Jr (.bd [ui 2,iv (oI (bi s 0 C.vn)),iv 0,iv 0]) ?_;refine af [2,2] (Gx F C hC cb A q l (⟨2,oI (bi s 0 C.vn),0,0⟩:Ins) (by simp only[aj,ag,bg];omega)) ?_;rintro _ _ ⟨An_2,qn_2,rfl,rfl⟩;refine Jn (Cr (Cb (Dr (.inr rfl) results250 ?_)));have h13:bi s 0 C.ps=none:=by simpa using c13
 obtain⟨k,hk⟩:=aQi.1 c25;have hp:(C.cc F).pn s=⟨2,oI (bi s 0 C.vn),0,0⟩:=by show(match bi s 0 C.ps with|some k=>_|none=>match bi s 0 C.vn with|some k=>_|none=>_)=_;rw[h13,hk];rfl
 rw[hp];exact⟨_,_,rfl⟩;refine bv 4 rfl (ros Da C.Af C.fn) rfl (aCd) (Jz 7 ?_);refine Jvf (Kv C.Af C.qf C.fn s _ hC.f rfl) rfl (jS (lS 0 rfl) (jP _)) ?_;refine Jr (.bd [ui 4,iv (oI (bi s 0 C.fn)),iv 0,iv 0]) ?_;refine af [3,3] (Gx F C hC cb A q l (⟨4,oI (bi s 0 C.fn),0,0⟩:Ins) (by simp only[aj,ag,bg];omega)) ?_;rintro _ _ ⟨An_3,qn_3,rfl,rfl⟩;refine Jn (Df (Cr (Cb (Dr (.inr rfl) results250 ?_))));have h13:bi s 0 C.ps=none:=by simpa using c13
 have h25:bi s 0 C.vn=none:=by simpa using c25
 have hp:(C.cc F).pn s=⟨4,oI (bi s 0 C.fn),0,0⟩:=by show(match bi s 0 C.ps with|some k=>_|none=>match bi s 0 C.vn with|some k=>_|none=>_)=_;rw[h13,h25]
 rw[hp];exact⟨_,_,rfl⟩
theorem iC(F:Fl)(C:Cp)(hC:C.Low F)(cb:Nat)(Ae:OA)(qe:Nat)(es:List Ex)(ih:∀x∈es,∀(A:OA) (q:Nat) (l:List Ins),(l++cE (C.cc F) x.pure).length≤1000000→Dz 243 [pv cb, .agg (Bc x).toArray] [box cb (cR F C (vs A l q)) 131,rows Ins.cells 147 4 A q l,all (C.kids F),all (x.kids Bc)] (fun v Γ'=>∃(A':OA) (q':Nat),Γ'=[box cb (cR F C (vs A' (l++cE (C.cc F) x.pure) q')) 131,rows Ins.cells 147 4 A' q' (l++cE (C.cc F) x.pure),all (C.kids F)]))(A:OA)(q:Nat)(l:List Ins)(hl:(l++cEs (C.cc F) (Cn es)).length≤1000000):
    Dz 223 [pv cb,vs Ae es qe] [box cb (cR F C (vs A l q)) 131,rows Ins.cells 147 4 A q l,all (C.kids F),all (lsF Bc Ae es)] (fun v Γ'=>∃(A':OA) (q':Nat),Γ'=[box cb (cR F C (vs A' (l++cEs (C.cc F) (Cn es)) q')) 131,rows Ins.cells 147 4 A' q' (l++cEs (C.cc F) (Cn es)),all (C.kids F)]):=by
 rw[aj]at hl;have hal:=aJ (C.cc F) es;refine Ba func223 ntmps223 fun w0=>?_;refine Js (bv 3 rfl (ros Bc Ae es) rfl (aNu ..) (Jz 7 ?_));refine Bw (fun s g mz ρ Γ=>∃(Aj:OA) (qj:Nat) (lj:List Ins) (j:Nat),ρ=[s 0,s 6,s 7,(8,nv j)]∧Γ=[box cb (cR F C (vs Aj lj qj)) 131,rows Ins.cells 147 4 Aj qj lj,g 3,g 0,g 4]∧mz=es.length-j∧(j≤es.length)∧(lj=l++cEs (C.cc F) (Cn (es.take j)))) ⟨⟨A,q,l,0,rfl,rfl,rfl,(aOk _),((aOo _).symm)⟩,sb⟩ ?_;rintro mz _ _ ⟨Aj,qj,lj,j,rfl,rfl,rfl,hj,hlj⟩;have hljl:lj.length=l.length+(cEs (C.cc F) (Cn (es.take j))).length:=by rw[hlj,aj]
 refine Jz 6 ?_;refine aa rfl ?_ ?_<;>intro c9;obtain⟨x,hx⟩:=ai es j om;have hle:=aHd (C.cc F) hx;refine Jz 8 ?_;refine ae fun b5=>?_;refine Jz 3 ?_;refine Bv 5 rfl (x.kids Bc) (Ex.lax Bc x) (Xq hx) (Jz 3 ?_);refine af [2,2,2,0] (ih x (sN hx) Aj qj lj (by rw[aj];omega)) ?_;rintro _ _ ⟨An,qn,rfl⟩;refine Jz 8 ?_;refine Bp ⟨⟨An,qn,(lj++cE (C.cc F) x.pure),j+1,rfl,rfl,rfl,om,(by rw[hlj,zM _ hx,aOt])⟩,sb⟩;refine Jz 4 ?_;refine Df (Cr (Dr (.inr rfl) results223 ?_));have hE:lj=l++cEs (C.cc F) (Cn es):=by rw[hlj,aOq om]
 rw[hE];exact⟨_,_,rfl⟩
theorem FP(F:Fl)(C:Cp)(hC:C.Low F)(cb:Nat)(e:Ex)(ih:∀x∈e.args,∀(A:OA) (q:Nat) (l:List Ins),(l++cE (C.cc F) x.pure).length≤1000000→Dz 243 [pv cb, .agg (Bc x).toArray] [box cb (cR F C (vs A l q)) 131,rows Ins.cells 147 4 A q l,all (C.kids F),all (x.kids Bc)] (fun v Γ'=>∃(A':OA) (q':Nat),Γ'=[box cb (cR F C (vs A' (l++cE (C.cc F) x.pure) q')) 131,rows Ins.cells 147 4 A' q' (l++cE (C.cc F) x.pure),all (C.kids F)]))(A:OA)(q:Nat)(l:List Ins)(hl:(l++cE (C.cc F) e.pure).length≤1000000):
    Dz 243 [pv cb, .agg (Bc e).toArray] [box cb (cR F C (vs A l q)) 131,rows Ins.cells 147 4 A q l,all (C.kids F),all (e.kids Bc)] (fun v Γ'=>∃(A':OA) (q':Nat),Γ'=[box cb (cR F C (vs A' (l++cE (C.cc F) e.pure) q')) 131,rows Ins.cells 147 4 A' q' (l++cE (C.cc F) e.pure),all (C.kids F)]):=by
 have hEl:(cE (C.cc F) e.pure).length=(cEs (C.cc F) (Cn e.args)).length+1:=by rw[El,cE,aj];rfl
 rw[aj]at hl;have hll:(l++cEs (C.cc F) (Cn e.args)).length=l.length+(cEs (C.cc F) (Cn e.args)).length:=aj ..;refine Ba func243 ntmps243 fun w0=>?_;refine Js (cz (Jbo fun b3=>?_));refine Jz 3 ?_;refine Bv 4 rfl (lsF Bc e.A e.args) (Lm _ _ _) (fun c hc=>by rw[Ky];exact hc) (Jz 4 ?_);refine af [2,2,2,0] (iC F C hC cb e.A e.q e.args ih A q l (by rw[aj];omega)) ?_;rintro _ _ ⟨An,qn,rfl⟩;refine Jz 15 ?_;refine aa rfl ?_ ?_<;>intro k15;refine Jz 4 ?_;refine Jr (.bd [ui 1,iv 0,iv 0,iv e.n]) ?_;refine af [0,0] (Gx F C hC cb An qn (l++cEs (C.cc F) (Cn e.args)) (⟨1,0,0,e.n⟩:Ins) (by simp only[aj,ag,bg];omega)) ?_;rintro _ _ ⟨An_2,qn_2,rfl,rfl⟩;refine Jn (Jbn (Df (Cr (Dr (.inr rfl) results243 ?_))));have hop:opI (C.cc F) e.op e.name e.n=(⟨1,0,0,e.n⟩:Ins):=by unfold opI;rw[aOn om]
 have hE:(l++cEs (C.cc F) (Cn e.args))++[(⟨1,0,0,e.n⟩:Ins)]=l++cE (C.cc F) e.pure:=by rw[El,←hop,aOt];rfl
 rw[hE];exact⟨_,_,rfl⟩;refine Jz 6 ?_;refine aa rfl ?_ ?_<;>intro k22;refine Jz 2 ?_;refine Jr (.bd [ui 1,iv 0,iv 0,iv 1]) ?_;refine af [0,0] (Gx F C hC cb An qn (l++cEs (C.cc F) (Cn e.args)) (⟨1,0,0,1⟩:Ins) (by simp only[aj,ag,bg];omega)) ?_;rintro _ _ ⟨An_3,qn_3,rfl,rfl⟩;refine Jn (Jbn (Df (Cr (Dr (.inr rfl) results243 ?_))));have hop:opI (C.cc F) e.op e.name e.n=(⟨1,0,0,1⟩:Ins):=by unfold opI;rw[aNy om,aOn om]
 have hE:(l++cEs (C.cc F) (Cn e.args))++[(⟨1,0,0,1⟩:Ins)]=l++cE (C.cc F) e.pure:=by rw[El,←hop,aOt];rfl
 rw[hE];exact⟨_,_,rfl⟩;refine Jz 6 ?_;refine aa rfl ?_ ?_<;>intro k27;refine Jz 2 ?_;refine Jr (.bd [ui 1,iv 0,iv 0,iv 0]) ?_;refine af [0,0] (Gx F C hC cb An qn (l++cEs (C.cc F) (Cn e.args)) (⟨1,0,0,0⟩:Ins) (by simp only[aj,ag,bg];omega)) ?_;rintro _ _ ⟨An_4,qn_4,rfl,rfl⟩;refine Jn (Jbn (Df (Cr (Dr (.inr rfl) results243 ?_))));have hop:opI (C.cc F) e.op e.name e.n=(⟨1,0,0,0⟩:Ins):=by unfold opI;rw[aNy om,aNy om,aOn om]
 have hE:(l++cEs (C.cc F) (Cn e.args))++[(⟨1,0,0,0⟩:Ins)]=l++cE (C.cc F) e.pure:=by rw[El,←hop,aOt];rfl
 rw[hE];exact⟨_,_,rfl⟩;refine Jz 6 ?_;refine aa rfl ?_ ?_<;>intro k32;refine Jz 2 ?_;refine Jr (.bd [ui 5,iv 0,iv 0,iv 0]) ?_;refine af [0,0] (Gx F C hC cb An qn (l++cEs (C.cc F) (Cn e.args)) (⟨5,0,0,0⟩:Ins) (by simp only[aj,ag,bg];omega)) ?_;rintro _ _ ⟨An_5,qn_5,rfl,rfl⟩;refine Jn (Jbn (Df (Cr (Dr (.inr rfl) results243 ?_))));have hop:opI (C.cc F) e.op e.name e.n=(⟨5,0,0,0⟩:Ins):=by unfold opI;rw[aNy om,aNy om,aNy om,aOn om]
 have hE:(l++cEs (C.cc F) (Cn e.args))++[(⟨5,0,0,0⟩:Ins)]=l++cE (C.cc F) e.pure:=by rw[El,←hop,aOt];rfl
 rw[hE];exact⟨_,_,rfl⟩;refine Jz 6 ?_;refine aa rfl ?_ ?_<;>intro k37;refine Jz 4 ?_;refine af [0,0,0] (VU F C hC cb An qn (l++cEs (C.cc F) (Cn e.args)) e.name (by rw[aj];show _+1≤_;omega)) ?_;rintro _ _ ⟨An_6,qn_6,rfl⟩;refine Jn (Jbn (Df (Cr (Dr (.inr rfl) results243 ?_))));have hop:opI (C.cc F) e.op e.name e.n=(C.cc F).pn e.name:=by unfold opI;rw[aNy om,aNy om,aNy om,aNy om,aOn om]
 have hE:(l++cEs (C.cc F) (Cn e.args))++[(C.cc F).pn e.name]=l++cE (C.cc F) e.pure:=by rw[El,←hop,aOt];rfl
 rw[hE];exact⟨_,_,rfl⟩;refine Jz 7 ?_;refine aa rfl ?_ ?_<;>intro k43;refine Jsp (Jt (Ld (aOa (fun b=>some (Value.bool b)) (aOv k43)) (bv 2 rfl (ros Da C.At C.tn) rfl (dM) (Jfw [box b3 (Bc e) 241] [0,1,2,3,4,5,7,8,106,309,10,511] (jS (lS 4 rfl) (jP _)) ?_))));refine Jz 9 ?_;refine Fw.qf (Kv C.At C.qt C.tn e.name _ hC.t rfl) (jS (lS 0 rfl) (jP _)) ?_;refine df rfl (.bd [ub e.op,iv (oI (bi e.name 0 C.tn)),iv 0,iv 0]) ?_;refine Dl [1,1] (Gx F C hC cb An qn (l++cEs (C.cc F) (Cn e.args)) (⟨e.op,oI (bi e.name 0 C.tn),0,0⟩:Ins) (by simp only[aj,ag,bg];omega)) ?_;rintro _ _ ⟨An_7,qn_7,rfl,rfl⟩;refine⟨jS (lS 4 rfl) (jP _),?_⟩;refine Jz 2 ?_;refine Gl (Df (Cb (Dr (.inr rfl) results243 ?_)));have hop:opI (C.cc F) e.op e.name e.n=(⟨e.op,oI (bi e.name 0 C.tn),0,0⟩:Ins):=by unfold opI;rw[aNy om,aNy om,aNy om,aNy om,aNy om,aOn om];rfl
 have hE:(l++cEs (C.cc F) (Cn e.args))++[(⟨e.op,oI (bi e.name 0 C.tn),0,0⟩:Ins)]=l++cE (C.cc F) e.pure:=by rw[El,←hop,aOt];rfl
 rw[hE];exact⟨_,_,rfl⟩;refine Jz 6 ?_;refine aa rfl ?_ ?_<;>intro k43_2;refine Jsp (Jt (Ld (aOa (fun b=>some (Value.bool b)) (aOv k43_2)) (bv 2 rfl (ros Da C.At C.tn) rfl (dM) (Jfw [box b3 (Bc e) 241] [0,1,2,3,4,5,7,8,106,309,10,511] (jS (lS 4 rfl) (jP _)) ?_))));refine Jz 9 ?_;refine Fw.qf (Kv C.At C.qt C.tn e.name _ hC.t rfl) (jS (lS 0 rfl) (jP _)) ?_;refine df rfl (.bd [ub e.op,iv (oI (bi e.name 0 C.tn)),iv 0,iv 0]) ?_;refine Dl [1,1] (Gx F C hC cb An qn (l++cEs (C.cc F) (Cn e.args)) (⟨e.op,oI (bi e.name 0 C.tn),0,0⟩:Ins) (by simp only[aj,ag,bg];omega)) ?_;rintro _ _ ⟨An_8,qn_8,rfl,rfl⟩;refine⟨jS (lS 4 rfl) (jP _),?_⟩;refine Jz 2 ?_;refine Gl (Df (Cb (Dr (.inr rfl) results243 ?_)));have hop:opI (C.cc F) e.op e.name e.n=(⟨e.op,oI (bi e.name 0 C.tn),0,0⟩:Ins):=by unfold opI;rw[aNy om,aNy om,aNy om,aNy om,aNy om,aOn om];rfl
 have hE:(l++cEs (C.cc F) (Cn e.args))++[(⟨e.op,oI (bi e.name 0 C.tn),0,0⟩:Ins)]=l++cE (C.cc F) e.pure:=by rw[El,←hop,aOt];rfl
 rw[hE];exact⟨_,_,rfl⟩;refine Jz 5 ?_;refine aa rfl ?_ ?_<;>intro k43_3;refine bv 2 rfl (ros Da C.At C.tn) rfl (dM) (Jfw [box b3 (Bc e) 241] [0,1,2,3,4,5,7,8,106,309,10,511] (jS (lS 4 rfl) (jP _)) ?_);refine Jz 9 ?_;refine Fw.qf (Kv C.At C.qt C.tn e.name _ hC.t rfl) (jS (lS 0 rfl) (jP _)) ?_;refine df rfl (.bd [ub e.op,iv (oI (bi e.name 0 C.tn)),iv 0,iv 0]) ?_;refine Dl [1,1] (Gx F C hC cb An qn (l++cEs (C.cc F) (Cn e.args)) (⟨e.op,oI (bi e.name 0 C.tn),0,0⟩:Ins) (by simp only[aj,ag,bg];omega)) ?_;rintro _ _ ⟨An_9,qn_9,rfl,rfl⟩;refine⟨jS (lS 4 rfl) (jP _),?_⟩;refine Jz 2 ?_;refine Gl (Df (Cb (Dr (.inr rfl) results243 ?_)));have hop:opI (C.cc F) e.op e.name e.n=(⟨e.op,oI (bi e.name 0 C.tn),0,0⟩:Ins):=by unfold opI;rw[aNy om,aNy om,aNy om,aNy om,aNy om,aOn om];rfl
 have hE:(l++cEs (C.cc F) (Cn e.args))++[(⟨e.op,oI (bi e.name 0 C.tn),0,0⟩:Ins)]=l++cE (C.cc F) e.pure:=by rw[El,←hop,aOt];rfl
 rw[hE];exact⟨_,_,rfl⟩;refine Jz 4 ?_;refine Jr (.bd [ub e.op,iv 0,iv 0,iv 0]) ?_;refine af [0,0] (Gx F C hC cb An qn (l++cEs (C.cc F) (Cn e.args)) (⟨e.op,0,0,0⟩:Ins) (by simp only[aj,ag,bg];omega)) ?_;rintro _ _ ⟨An_10,qn_10,rfl,rfl⟩;refine Jn (Jbn (Df (Cr (Dr (.inr rfl) results243 ?_))));have hop:opI (C.cc F) e.op e.name e.n=(⟨e.op,0,0,0⟩:Ins):=by unfold opI;rw[aNy om,aNy om,aNy om,aNy om,aNy om,aNy om]
 have hE:(l++cEs (C.cc F) (Cn e.args))++[(⟨e.op,0,0,0⟩:Ins)]=l++cE (C.cc F) e.pure:=by rw[El,←hop,aOt];rfl
 rw[hE];exact⟨_,_,rfl⟩
theorem zW(F:Fl)(C:Cp)(hC:C.Low F)(cb:Nat):∀e:Ex,∀(A:OA) (q:Nat) (l:List Ins),(l++cE (C.cc F) e.pure).length≤1000000→Dz 243 [pv cb, .agg (Bc e).toArray] [box cb (cR F C (vs A l q)) 131,rows Ins.cells 147 4 A q l,all (C.kids F),all (e.kids Bc)] (fun v Γ'=>∃(A':OA) (q':Nat),Γ'=[box cb (cR F C (vs A' (l++cE (C.cc F) e.pure) q')) 131,rows Ins.cells 147 4 A' q' (l++cE (C.cc F) e.pure),all (C.kids F)])
 |e,A,q,l,hl=>FP F C hC cb e (fun x hx=>zW F C hC cb x) A q l hl
termination_by e=>SizeOf.sizeOf e
decreasing_by
 cases e with
 | mk op s n A q l=>
   have:=aPb (show x∈l from hx);simp only[Ex.mk.sizeOf_spec];omega
theorem OW(F:Fl)(C:Cp)(hC:C.Low F)(cb:Nat)(Ae:OA)(qe:Nat)(es:List Ex)(A:OA)(q:Nat)(l:List Ins)(hl:(l++cEs (C.cc F) (Cn es)).length≤1000000):Dz 223 [pv cb,vs Ae es qe] [box cb (cR F C (vs A l q)) 131,rows Ins.cells 147 4 A q l,all (C.kids F),all (lsF Bc Ae es)] (fun v Γ'=>∃(A':OA) (q':Nat),Γ'=[box cb (cR F C (vs A' (l++cEs (C.cc F) (Cn es)) q')) 131,rows Ins.cells 147 4 A' q' (l++cEs (C.cc F) (Cn es)),all (C.kids F)]):=iC F C hC cb Ae qe es (fun x _=>zW F C hC cb x) A q l hl
section
variable{cc:Cc}{t e:List PS}{X Y1 Z1 WF:List Ins}
theorem aKx{y:Ins}{B V:List Ins}(hY1:Y1=(X++[y])++B)(hZ1:Z1=Y1++V):Z1[X.length]?=some y:=by rw[hZ1,hY1];exact zN ..
theorem aNc{j:Ins}(hZ1:Z1=(X++[j])++cB cc e (X++[j]).length)(hWF:WF=Z1.set X.length ⟨27,((Z1.length:Nat):Int),0,0⟩)(he:e.isEmpty=false):WF=X++ovr X.length (cB cc e (X.length+1)) e.isEmpty:=by
 rw[Xx]at hZ1;have hzl:Z1.length=X.length+1+(cB cc e (X.length+1)).length:=by rw[hZ1,aj,Xx]
 rw[hWF,hzl,hZ1,nU,he,aOt];rfl
theorem aNd{y:Ins}{b:Bool}(hY1:Y1=(X++[y])++cB cc t (X++[y]).length)(hZ1:Z1=Y1++ovr Y1.length (cB cc e (Y1.length+1)) b)(hWF:WF=Z1.set X.length ⟨28,((Y1.length+(if b then 0 else 1):Nat):Int),0,0⟩):
    WF=X++(⟨28,((X.length+1+(cB cc t (X.length+1)).length+(if b then 0 else 1):Nat):Int),0,0⟩::(cB cc t (X.length+1)++ovr (X.length+1+(cB cc t (X.length+1)).length) (cB cc e (X.length+1+(cB cc t (X.length+1)).length+1)) b)):=by
 rw[Xx]at hY1;have hyl:Y1.length=X.length+1+(cB cc t (X.length+1)).length:=by rw[hY1,aj,Xx]
 rw[hyl]at hZ1 hWF;rw[hWF,hZ1,hY1,zO];simp
theorem aKy{y z:Ins}{V:List Ins}(hZ1:Z1=(X++[y])++V)(hWF:WF=Z1.set X.length z):WF=X++(z::V):=by
 rw[hWF,hZ1,nU,aOt];rfl
end
theorem aK(F:Fl)(C:Cp)(hC:C.Low F)(cb:Nat)(x:Cm)(σ:Scp)(Ab:OA)(qb:Nat)(bs:List St)(ih:∀y∈bs,∀(A:OA) (q:Nat) (l:List Ins),PS.Ty F x σ y.pure→(l++cS (C.cc F) y.pure l.length).length≤1000000→Dz 181 [pv cb, .agg (Bl y).toArray] [box cb (cR F C (vs A l q)) 131,rows Ins.cells 147 4 A q l,all (C.kids F),all (y.kids Bc Bl)] (fun v Γ'=>∃(A':OA) (q':Nat),Γ'=[box cb (cR F C (vs A' (l++cS (C.cc F) y.pure l.length) q')) 131,rows Ins.cells 147 4 A' q' (l++cS (C.cc F) y.pure l.length),all (C.kids F)]))(A:OA)(q:Nat)(l:List Ins)(hty:Lr F x σ (Ai bs))(hl:(l++cB (C.cc F) (Ai bs) l.length).length≤1000000):
    Dz 132 [pv cb,vs Ab bs qb] [box cb (cR F C (vs A l q)) 131,rows Ins.cells 147 4 A q l,all (C.kids F),all (lsG Bc Bl Ab bs)] (fun v Γ'=>∃(A':OA) (q':Nat),Γ'=[box cb (cR F C (vs A' (l++cB (C.cc F) (Ai bs) l.length) q')) 131,rows Ins.cells 147 4 A' q' (l++cB (C.cc F) (Ai bs) l.length),all (C.kids F)]):=by
 rw[aj]at hl;have hal:=VQ (C.cc F) bs l.length;refine Ba func132 ntmps132 fun w0=>?_;refine Js (bv 3 rfl (ros Bl Ab bs) rfl (aNu ..) (Jz 7 ?_));refine Bw (fun s g mz ρ Γ=>∃(Aj:OA) (qj:Nat) (lj:List Ins) (j:Nat),ρ=[s 0,s 6,s 7,(8,nv j)]∧Γ=[box cb (cR F C (vs Aj lj qj)) 131,rows Ins.cells 147 4 Aj qj lj,g 3,g 0,g 4]∧mz=bs.length-j∧(j≤bs.length)∧(lj=l++cB (C.cc F) (Ai (bs.take j)) l.length)) ⟨⟨A,q,l,0,rfl,rfl,rfl,(aOk _),((aOo _).symm)⟩,sb⟩ ?_;rintro mz _ _ ⟨Aj,qj,lj,j,rfl,rfl,rfl,hj,hlj⟩;have hljl:lj.length=l.length+(cB (C.cc F) (Ai (bs.take j)) l.length).length:=by rw[hlj,aj]
 refine Jz 6 ?_;refine aa rfl ?_ ?_<;>intro c9;obtain⟨y,hy⟩:=ai bs j om;have hle:=aKv (C.cc F) l.length hy;rw[←hljl]at hle;refine Jz 8 ?_;refine ae fun b5=>?_;refine Jz 3 ?_;refine Bv 5 rfl (y.kids Bc Bl) (St.lax Bc Bl y) (Hw hy) (Jz 3 ?_);refine af [2,2,2,0] (ih y (sN hy) Aj qj lj (rJ hty (sN hy)) (by rw[aj];omega)) ?_;rintro _ _ ⟨An,qn,rfl⟩;refine Jz 8 ?_;refine Bp ⟨⟨An,qn,(lj++cS (C.cc F) y.pure lj.length),j+1,rfl,rfl,rfl,om,(by rw[JX _ _ hy,←hljl,←aOt,←hlj])⟩,sb⟩;refine Jz 4 ?_;refine Df (Cr (Dr (.inr rfl) results132 ?_));have hE:lj=l++cB (C.cc F) (Ai bs) l.length:=by rw[hlj,aOq om]
 rw[←hE];exact⟨_,_,rfl⟩
theorem nW(F:Fl)(C:Cp)(hC:C.Low F)(cb:Nat)(x:Cm)(σ:Scp)(Ab:OA)(qb:Nat)(bs:List St)(ih:∀(A:OA) (q:Nat) (l:List Ins),Lr F x σ (Ai bs)→(l++cB (C.cc F) (Ai bs) l.length).length≤1000000→Dz 132 [pv cb,vs Ab bs qb] [box cb (cR F C (vs A l q)) 131,rows Ins.cells 147 4 A q l,all (C.kids F),all (lsG Bc Bl Ab bs)] (fun v Γ'=>∃(A':OA) (q':Nat),Γ'=[box cb (cR F C (vs A' (l++cB (C.cc F) (Ai bs) l.length) q')) 131,rows Ins.cells 147 4 A' q' (l++cB (C.cc F) (Ai bs) l.length),all (C.kids F)]))(X:List Ins)(A:OA)(q:Nat)(hty:Lr F x σ (Ai bs))(hl:(X++ovr X.length (cB (C.cc F) (Ai bs) (X.length+1)) (Ai bs).isEmpty).length≤1000000):
    Dz 224 [pv cb,vs Ab bs qb] [box cb (cR F C (vs A X q)) 131,rows Ins.cells 147 4 A q X,all (C.kids F),all (lsG Bc Bl Ab bs)] (fun v Γ'=>∃(A':OA) (q':Nat),v=nv (X.length+(if(Ai bs).isEmpty then 0 else 1))∧Γ'=[box cb (cR F C (vs A' (X++ovr X.length (cB (C.cc F) (Ai bs) (X.length+1)) (Ai bs).isEmpty) q')) 131,rows Ins.cells 147 4 A' q' (X++ovr X.length (cB (C.cc F) (Ai bs) (X.length+1)) (Ai bs).isEmpty),all (C.kids F)]):=by
 rw[aj]at hl;have hX1:(X++[(⟨27,0,0,0⟩:Ins)]).length=X.length+1:=Xx ..;refine Ba func224 ntmps224 fun w0=>?_;refine Jz 13 ?_;refine aa rfl ?_ ?_<;>intro c9;refine Jz 12 ?_;refine Cr (ak results224 ?_);have he:(Ai bs).isEmpty=true:=by rw[Xy];exact aOv om
 have hE:X=X++ovr X.length (cB (C.cc F) (Ai bs) (X.length+1)) (Ai bs).isEmpty:=by rw[he];exact(aOo _).symm
 rw[←hE,he];exact⟨_,_,rfl,rfl⟩;have hov:=VP X.length (cB (C.cc F) (Ai bs) (X.length+1)) (b:=(Ai bs).isEmpty) (by rw[Xy];exact aPe om);refine Jz 5 ?_;refine Jr (.bd [ui 27,iv 0,iv 0,iv 0]) ?_;refine af [0,0] (Gx F C hC cb A q X (⟨27,0,0,0⟩:Ins) (by simp only[aj,ag,bg];omega)) ?_;rintro _ _ ⟨An,qn,rfl,rfl⟩;refine Jz 17 ?_;refine af [0,0,0,0] (ih An qn (X++[(⟨27,0,0,0⟩:Ins)]) hty (by rw[aj,hX1];omega)) ?_;rintro _ _ ⟨An_2,qn_2,rfl⟩;refine Jz 3 ?_;refine dx ?_;obtain⟨Z1,hZ1⟩:∃z0,z0=((X++[(⟨27,0,0,0⟩:Ins)])++cB (C.cc F) (Ai bs) (X++[(⟨27,0,0,0⟩:Ins)]).length):=⟨_,rfl⟩
 rw[←hZ1];refine Jfw [] [0,1,2,4,5,6,7,103,108,9,110,11,512] (jP _) ?_;refine Jz 10 ?_;refine Ki rfl (Lh (i:=1) (j:=X.length) rfl rfl rfl s61 rfl (at4 hZ1)) ?_;refine Jz 1 ?_;refine dh rfl rfl rfl (cu (i:=1) rfl rfl rfl c3 rfl rfl (Qm (f:=1) (y:=(⟨27,0,0,0⟩:Ins)) (z:=(⟨27,((Z1.length:Nat):Int),0,0⟩:Ins)) qU (at4 hZ1) de rfl)) (jP _) ?_;refine Jz 9 ?_;refine dx ?_;obtain⟨WF,hWF⟩:∃z0,z0=(Z1.set X.length (⟨27,((Z1.length:Nat):Int),0,0⟩:Ins)):=⟨_,rfl⟩
 rw[←hWF];have hlWF:WF.length=Z1.length:=by rw[hWF];exact aNw ..
 (try unfold vs);rw[←hlWF]
 refine ak results224 ?_;have he:(Ai bs).isEmpty=false:=by rw[Xy];exact aPe om
 have hE:WF=X++ovr X.length (cB (C.cc F) (Ai bs) (X.length+1)) (Ai bs).isEmpty:=aNc hZ1 hWF he;rw[←hE,he];exact⟨_,_,by rw[Xx];rfl,rfl⟩
theorem FQ(F:Fl)(C:Cp)(hC:C.Low F)(cb:Nat)(x:Cm)(σ:Scp)(s:St)(ihT:∀(A:OA) (q:Nat) (l:List Ins),Lr F x σ (Ai s.thn)→(l++cB (C.cc F) (Ai s.thn) l.length).length≤1000000→Dz 132 [pv cb,vs s.At s.thn s.qt] [box cb (cR F C (vs A l q)) 131,rows Ins.cells 147 4 A q l,all (C.kids F),all (lsG Bc Bl s.At s.thn)] (fun v Γ'=>∃(A':OA) (q':Nat),Γ'=[box cb (cR F C (vs A' (l++cB (C.cc F) (Ai s.thn) l.length) q')) 131,rows Ins.cells 147 4 A' q' (l++cB (C.cc F) (Ai s.thn) l.length),all (C.kids F)]))(ihE:∀(A:OA) (q:Nat) (l:List Ins),Lr F x σ (Ai s.els)→(l++cB (C.cc F) (Ai s.els) l.length).length≤1000000→Dz 132 [pv cb,vs s.Ae s.els s.qe] [box cb (cR F C (vs A l q)) 131,rows Ins.cells 147 4 A q l,all (C.kids F),all (lsG Bc Bl s.Ae s.els)] (fun v Γ'=>∃(A':OA) (q':Nat),Γ'=[box cb (cR F C (vs A' (l++cB (C.cc F) (Ai s.els) l.length) q')) 131,rows Ins.cells 147 4 A' q' (l++cB (C.cc F) (Ai s.els) l.length),all (C.kids F)]))(A:OA)(q:Nat)(l:List Ins)(hty:PS.Ty F x σ s.pure)(hl:(l++cS (C.cc F) s.pure l.length).length≤1000000):
    Dz 181 [pv cb, .agg (Bl s).toArray] [box cb (cR F C (vs A l q)) 131,rows Ins.cells 147 4 A q l,all (C.kids F),all (s.kids Bc Bl)] (fun v Γ'=>∃(A':OA) (q':Nat),Γ'=[box cb (cR F C (vs A' (l++cS (C.cc F) s.pure l.length) q')) 131,rows Ins.cells 147 4 A' q' (l++cS (C.cc F) s.pure l.length),all (C.kids F)]):=by
 have hT:=yZ hty;have hEl:(cS (C.cc F) s.pure l.length).length=(cEs (C.cc F) (Cn s.exprs)).length+1+(Sa (C.cc F) s.pure (l.length+(cEs (C.cc F) (Cn s.exprs)).length+1) l.length).length:=by
  rw[vP,aj,ag,show s.pure.exprs=Cn s.exprs by rw[Ir]]
 rw[aj]at hl;have hel:=aJ (C.cc F) s.exprs;refine Ba func181 ntmps181 fun w0=>?_;refine Js (cz (Jbo fun b3=>?_));refine Jz 5 ?_;refine Jr (.bd [ui 29,iv 0,iv 0,iv 0]) ?_;refine af [1,1] (Gx F C hC cb A q l (⟨29,0,0,0⟩:Ins) (by simp only[aj,ag,bg];omega)) ?_;rintro _ _ ⟨An,qn,rfl,rfl⟩;refine Jz 4 ?_;refine Bv 4 rfl (lsF Bc s.A s.exprs) (Lm _ _ _) (Kz s) (Jz 4 ?_);refine af [1,1,2,0] (OW F C hC cb s.A s.q s.exprs An qn (l++[(⟨29,0,0,0⟩:Ins)]) (by rw[aj,Xx];omega)) ?_;rintro _ _ ⟨An_2,qn_2,rfl⟩;refine Jz 10 ?_;refine dx ?_;obtain⟨X,hX⟩:∃z0,z0=((l++[(⟨29,0,0,0⟩:Ins)])++cEs (C.cc F) (Cn s.exprs)):=⟨_,rfl⟩
 rw[←hX];have hXl:X.length=l.length+1+(cEs (C.cc F) (Cn s.exprs)).length:=by rw[hX,aj,Xx]
 have hfin:=aCb (C.cc F) s hX;have hlen:=aOa List.length hfin;rw[aj,aj]at hlen;refine Jz 5 ?_;refine aa rfl ?_ ?_<;>intro k22;have hk:s.kind=1:=om;have htl:=aOa List.length (aDt (c:=(C.cc F)) (n:=X.length) (top:=l.length) hk);rw[List.length_singleton]at htl;refine bv 2 rfl (ros Da C.Av C.vn) rfl (vQ) (Jfw [] [0,1,2,3,5,104,106,307,8,509] (jP _) ?_);refine Jz 7 ?_;refine Fw.qf (Kv C.Av C.qv C.vn s.name _ hC.v rfl) (jS (lS 0 rfl) (jP _)) ?_;refine df rfl (.bd [ui 24,iv (oI (bi s.name 0 C.vn)),iv 0,iv 0]) ?_;refine Dl [1,1] (Gx F C hC cb An_2 qn_2 X (⟨24,oI (bi s.name 0 C.vn),0,0⟩:Ins) (by simp only[aj,ag,bg];omega)) ?_;rintro _ _ ⟨An_3,qn_3,rfl,rfl⟩;refine⟨jP _,?_⟩;refine Jz 2 ?_;refine Gl (Df (Cb (Dr (.inr rfl) results181 ?_)));have hE:X++[(⟨24,oI (bi s.name 0 C.vn),0,0⟩:Ins)]=l++cS (C.cc F) s.pure l.length:=by rw[hfin,aDt hk];rfl
 rw[←hE];exact⟨_,_,rfl⟩;refine Jz 6 ?_;refine aa rfl ?_ ?_<;>intro k34;have hk:s.kind=2:=om;have htl:=aOa List.length (aDu (c:=(C.cc F)) (n:=X.length) (top:=l.length) hk);rw[List.length_singleton]at htl;refine bv 2 rfl (ros Da C.At C.tn) rfl (dM) (Jfw [] [0,1,2,3,5,104,106,307,8,509] (jP _) ?_);refine Jz 7 ?_;refine Fw.qf (Kv C.At C.qt C.tn s.name _ hC.t rfl) (jS (lS 0 rfl) (jP _)) ?_;refine df rfl (.bd [ui 25,iv (oI (bi s.name 0 C.tn)),iv 0,iv 0]) ?_;refine Dl [1,1] (Gx F C hC cb An_2 qn_2 X (⟨25,oI (bi s.name 0 C.tn),0,0⟩:Ins) (by simp only[aj,ag,bg];omega)) ?_;rintro _ _ ⟨An_4,qn_4,rfl,rfl⟩;refine⟨jP _,?_⟩;refine Jz 2 ?_;refine Gl (Df (Cb (Dr (.inr rfl) results181 ?_)));have hE:X++[(⟨25,oI (bi s.name 0 C.tn),0,0⟩:Ins)]=l++cS (C.cc F) s.pure l.length:=by rw[hfin,aDu hk];rfl
 rw[←hE];exact⟨_,_,rfl⟩;refine Jz 6 ?_;refine aa rfl ?_ ?_<;>intro k46;have hk:s.kind=3:=om;have htl:=aOa List.length (aDv (c:=(C.cc F)) (n:=X.length) (top:=l.length) hk);rw[List.length_singleton]at htl;refine bv 2 rfl (ros Da C.At C.tn) rfl (dM) (Jfw [] [0,1,2,3,5,104,106,307,8,509] (jP _) ?_);refine Jz 7 ?_;refine Fw.qf (Kv C.At C.qt C.tn s.name _ hC.t rfl) (jS (lS 0 rfl) (jP _)) ?_;refine df rfl (.bd [ui 26,iv (oI (bi s.name 0 C.tn)),iv 0,iv 0]) ?_;refine Dl [1,1] (Gx F C hC cb An_2 qn_2 X (⟨26,oI (bi s.name 0 C.tn),0,0⟩:Ins) (by simp only[aj,ag,bg];omega)) ?_;rintro _ _ ⟨An_5,qn_5,rfl,rfl⟩;refine⟨jP _,?_⟩;refine Jz 2 ?_;refine Gl (Df (Cb (Dr (.inr rfl) results181 ?_)));have hE:X++[(⟨26,oI (bi s.name 0 C.tn),0,0⟩:Ins)]=l++cS (C.cc F) s.pure l.length:=by rw[hfin,aDv hk];rfl
 rw[←hE];exact⟨_,_,rfl⟩;refine Jz 6 ?_;refine aa rfl ?_ ?_<;>intro k58;have hk:s.kind=4:=om;have htl:=aOa List.length (aDw (c:=(C.cc F)) (n:=X.length) (top:=l.length) hk);rw[ag,aj]at htl;refine Jz 3 ?_;refine Jr (.bd [ui 28,iv 0,iv 0,iv 0]) ?_;refine af [0,0] (Gx F C hC cb An_2 qn_2 X (⟨28,0,0,0⟩:Ins) (by simp only[aj,ag,bg];omega)) ?_;rintro _ _ ⟨An_6,qn_6,rfl,rfl⟩;refine Jz 4 ?_;refine Bv 4 rfl (lsG Bc Bl s.At s.thn) (Co _ _ _ _) (Gn s) ?_;have hx28:(X++[(⟨28,0,0,0⟩:Ins)]).length=X.length+1:=Xx ..;refine Jz 4 ?_;refine af [1,1,1,0] (ihT An_6 qn_6 (X++[(⟨28,0,0,0⟩:Ins)]) hT.2.1 (by rw[aj,hx28];omega)) ?_;rintro _ _ ⟨An_7,qn_7,rfl⟩;refine Jz 3 ?_;refine dx ?_;obtain⟨Y1,hY1⟩:∃z0,z0=((X++[(⟨28,0,0,0⟩:Ins)])++cB (C.cc F) (Ai s.thn) (X++[(⟨28,0,0,0⟩:Ins)]).length):=⟨_,rfl⟩
 rw[←hY1];have hyl:Y1.length=X.length+1+(cB (C.cc F) (Ai s.thn) (X.length+1)).length:=by rw[hY1,aj,hx28]
 refine Bv 4 rfl (lsG Bc Bl s.Ae s.els) (Co _ _ _ _) (Fe s) (Jz 4 ?_);refine af [1,1,1,0] (nW F C hC cb x σ s.Ae s.qe s.els ihE Y1 An_7 qn_7 hT.2.2 (by rw[aj,hyl];omega)) ?_;rintro _ _ ⟨An_8,qn_8,rfl,rfl⟩;refine Jz 3 ?_;refine dx ?_;obtain⟨Z1,hZ1⟩:∃z0,z0=(Y1++ovr Y1.length (cB (C.cc F) (Ai s.els) (Y1.length+1)) (Ai s.els).isEmpty):=⟨_,rfl⟩
 rw[←hZ1];refine Jz 7 ?_;refine Jr (Lh (i:=1) (j:=X.length) rfl rfl rfl s61 rfl (aKx hY1 hZ1)) ?_;refine Jz 1 ?_;refine To.u (cu (i:=1) rfl rfl rfl c3 rfl rfl (Qm (f:=1) (y:=(⟨28,0,0,0⟩:Ins)) (z:=(⟨28,(((Y1.length+(if(Ai s.els).isEmpty then 0 else 1)):Nat):Int),0,0⟩:Ins)) qU (aKx hY1 hZ1) de rfl)) ?_;refine Jn (Jbn (dx ?_));obtain⟨WF,hWF⟩:∃z0,z0=(Z1.set X.length (⟨28,(((Y1.length+(if(Ai s.els).isEmpty then 0 else 1)):Nat):Int),0,0⟩:Ins)):=⟨_,rfl⟩
 rw[←hWF];have hlWF:WF.length=Z1.length:=by rw[hWF];exact aNw ..
 (try unfold vs);rw[←hlWF]
 refine Df (Cr (Dr (.inr rfl) results181 ?_));have hE:WF=l++cS (C.cc F) s.pure l.length:=by rw[hfin,aDw hk];exact aNd hY1 hZ1 hWF
 rw[←hE];exact⟨_,_,rfl⟩;refine Jz 6 ?_;refine aa rfl ?_ ?_<;>intro k79;have hk:s.kind=5:=om;have htl:=aOa List.length (aDx (c:=(C.cc F)) (n:=X.length) (top:=l.length) hk);rw[ag,aj,List.length_singleton]at htl;refine Jz 3 ?_;refine Jr (.bd [ui 28,iv 0,iv 0,iv 0]) ?_;refine af [0,0] (Gx F C hC cb An_2 qn_2 X (⟨28,0,0,0⟩:Ins) (by simp only[aj,ag,bg];omega)) ?_;rintro _ _ ⟨An_9,qn_9,rfl,rfl⟩;refine Jz 4 ?_;refine Bv 4 rfl (lsG Bc Bl s.At s.thn) (Co _ _ _ _) (Gn s) ?_;have hx28:(X++[(⟨28,0,0,0⟩:Ins)]).length=X.length+1:=Xx ..;refine Jz 4 ?_;refine af [1,1,1,0] (ihT An_9 qn_9 (X++[(⟨28,0,0,0⟩:Ins)]) hT.2.1 (by rw[aj,hx28];omega)) ?_;rintro _ _ ⟨An_10,qn_10,rfl⟩;refine Jz 3 ?_;refine dx ?_;obtain⟨Y1,hY1⟩:∃z0,z0=((X++[(⟨28,0,0,0⟩:Ins)])++cB (C.cc F) (Ai s.thn) (X++[(⟨28,0,0,0⟩:Ins)]).length):=⟨_,rfl⟩
 rw[←hY1];have hyl:Y1.length=X.length+1+(cB (C.cc F) (Ai s.thn) (X.length+1)).length:=by rw[hY1,aj,hx28]
 refine Jz 3 ?_;refine Jr (.bd [ui 27,nv l.length,iv 0,iv 0]) ?_;refine af [0,0] (Gx F C hC cb An_10 qn_10 Y1 (⟨27,((l.length:Nat):Int),0,0⟩:Ins) (by simp only[aj,ag,bg];omega)) ?_;rintro _ _ ⟨An_11,qn_11,rfl,rfl⟩;refine Jn (Jt (Jfw [] [0,1,2,4,5,6,7,103,108,9,110,11,512] (jP _) ?_));refine Jz 10 ?_;refine Ki rfl (Lh (i:=1) (j:=X.length) rfl rfl rfl s61 rfl (aKu hY1)) ?_;refine Jz 1 ?_;refine dh rfl rfl rfl (cu (i:=1) rfl rfl rfl c3 rfl rfl (Qm (f:=1) (y:=(⟨28,0,0,0⟩:Ins)) (z:=(⟨28,(((Y1++[(⟨27,((l.length:Nat):Int),0,0⟩:Ins)]).length:Nat):Int),0,0⟩:Ins)) qU (aKu hY1) de rfl)) (jP _) ?_;refine Jz 2 ?_;refine dx ?_;obtain⟨WF,hWF⟩:∃z0,z0=((Y1++[(⟨27,((l.length:Nat):Int),0,0⟩:Ins)]).set X.length (⟨28,(((Y1++[(⟨27,((l.length:Nat):Int),0,0⟩:Ins)]).length:Nat):Int),0,0⟩:Ins)):=⟨_,rfl⟩
 rw[←hWF];have hlWF:WF.length=(Y1++[(⟨27,((l.length:Nat):Int),0,0⟩:Ins)]).length:=by rw[hWF];exact aNw ..
 (try unfold vs);rw[←hlWF]
 refine Df (Cr (Dr (.inr rfl) results181 ?_));have hE:WF=l++cS (C.cc F) s.pure l.length:=by rw[hfin,aDx hk];exact aNb hY1 hWF
 rw[←hE];exact⟨_,_,rfl⟩;refine Jz 6 ?_;refine aa rfl ?_ ?_<;>intro k104;have hk:s.kind=6:=om;have htl:=aOa List.length (aDy (c:=(C.cc F)) (n:=X.length) (top:=l.length) hk);rw[List.length_singleton]at htl;obtain⟨c,h',hfc,hfh,hhl⟩:=hT.1.k6 hk;obtain⟨to,hto,hcm⟩:=aEc (f:=Cm.name) (k:=0) hfc;rw[aOz]at hto;have htl2:to<C.hs.length:=by rw[hC.h];exact(aNr.1 hcm).1
 obtain⟨hn,hhn⟩:∃hn,C.hs[to]?=some hn:=⟨_,gge htl2⟩
 have htg:(C.cc F).tg s.name s.hand=(((to:Nat):Int),oI (bi s.hand 0 hn.l)):=by
  show(oI (bi s.name 0 (F.comps.map Cm.name)),oI (bi s.hand 0 (zP C (oI (bi s.name 0 (F.comps.map Cm.name))).toNat)))=_;rw[hto];show(((to:Nat):Int),oI (bi s.hand 0 (zP C to)))=_;rw[KA hhn]
 refine Js (bv 2 rfl (ros Gu F.Ac F.comps) rfl (aCe) (Nj (Sm (Jz 6 ?_))));refine Jr (Rd.makeFunc rfl rfl rfl) ?_;refine Jvf (OV b3 s F.Ac F.qc F.comps (some to) hC.c hto) rfl (jS (lS 1 rfl) (jS (lS 0 rfl) (jP _))) ?_;refine Jz 3 ?_;refine bv 4 rfl (ros Vx C.Ah C.hs) rfl (JY) (bv 5 rfl (ros Da hn.A hn.l) rfl (JZ hhn) (Jfw [] [0,1,2,3,4,6,9,12,105,107,108,110,311,113,14,15,516] (jP _) ?_));refine Jz 11 ?_;refine Ki rfl (Cq (i:=2) rfl rfl c9 rfl (Ev (A:=some ⟨b3,0,none⟩) (o:=2) (k:=1) rfl)) ?_;refine Fw.qf (Kv hn.A hn.q hn.l s.hand _ (hC.each hn (sN hhn)) rfl) (jS (lS 0 rfl) (jP _)) ?_;refine Ki rfl (Cq (i:=2) rfl rfl Sg rfl (Ev (A:=some ⟨b3,0,none⟩) (o:=3) (k:=1) rfl)) ?_;refine Jz 1 ?_;refine df rfl (.bd [ui 30,nv to,iv (oI (bi s.hand 0 hn.l)),nv s.exprs.length]) ?_;refine Dl [4,4] (Gx F C hC cb An_2 qn_2 X (⟨30,((to:Nat):Int),oI (bi s.hand 0 hn.l),((s.exprs.length:Nat):Int)⟩:Ins) (by simp only[aj,ag,bg];omega)) ?_;rintro _ _ ⟨An_12,qn_12,rfl,rfl⟩;refine⟨jP _,?_⟩;refine Jz 2 ?_;refine Wu (Gl (Df (Cr (Cb (Dr (.inr rfl) results181 ?_)))));have hE:X++[(⟨30,((to:Nat):Int),oI (bi s.hand 0 hn.l),((s.exprs.length:Nat):Int)⟩:Ins)]=l++cS (C.cc F) s.pure l.length:=by rw[hfin,aDy hk];rw[htg]
 rw[←hE];exact⟨_,_,rfl⟩;refine Jz 6 ?_;refine aa rfl ?_ ?_<;>intro k130;have hk:s.kind=7:=om;have htl:=aOa List.length (aDz (c:=(C.cc F)) (n:=X.length) (top:=l.length) hk);rw[List.length_singleton]at htl;obtain⟨hn,hhn⟩:∃hn,C.hs[C.own]?=some hn:=⟨_,gge hC.o⟩
 have htg:(C.cc F).ah s.hand=oI (bi s.hand 0 hn.l):=by
  show oI (bi s.hand 0 (zP C C.own))=_;rw[KA hhn]
 refine bv 2 rfl (ros Vx C.Ah C.hs) rfl (JY) (bv 3 rfl (ros Da hn.A hn.l) rfl (JZ hhn) (Jfw [] [0,1,2,3,5,6,7,11,14,104,108,109,110,112,313,115,16,17,18,519] (jP _) ?_));refine Jz 14 ?_;refine Fw.qf (Kv hn.A hn.q hn.l s.hand _ (hC.each hn (sN hhn)) rfl) (jS (lS 0 rfl) (jP _)) ?_;refine Jz 2 ?_;refine df rfl (Fh rfl rfl rfl om) ?_;refine df rfl (.bd [ui 31,iv 0,iv (oI (bi s.hand 0 hn.l)),iv (((s.exprs.length:Nat):Int)-1)]) ?_;refine Dl [2,2] (Gx F C hC cb An_2 qn_2 X (⟨31,0,oI (bi s.hand 0 hn.l),((s.exprs.length:Nat):Int)-1⟩:Ins) (by simp only[aj,ag,bg];omega)) ?_;rintro _ _ ⟨An_13,qn_13,rfl,rfl⟩;refine⟨jP _,?_⟩;refine Jz 2 ?_;refine Jq (Gl (Cr (Cb (Dr (.inr rfl) results181 ?_))));have hE:X++[(⟨31,0,oI (bi s.hand 0 hn.l),((s.exprs.length:Nat):Int)-1⟩:Ins)]=l++cS (C.cc F) s.pure l.length:=by rw[hfin,aDz hk];rw[htg]
 rw[←hE];exact⟨_,_,rfl⟩;refine Jz 6 ?_;refine aa rfl ?_ ?_<;>intro k152;have hk:s.kind=8:=om;have htl:=aOa List.length (aEa (c:=(C.cc F)) (n:=X.length) (top:=l.length) hk);rw[ag]at htl;refine Jz 3 ?_;refine Jr (.bd [ui 32,iv 0,iv 0,iv 0]) ?_;refine af [0,0] (Gx F C hC cb An_2 qn_2 X (⟨32,0,0,0⟩:Ins) (by simp only[aj,ag,bg];omega)) ?_;rintro _ _ ⟨An_14,qn_14,rfl,rfl⟩;refine Jz 4 ?_;refine Bv 4 rfl (lsG Bc Bl s.Ae s.els) (Co _ _ _ _) (Fe s) (Jz 4 ?_);refine af [1,1,1,0] (nW F C hC cb x σ s.Ae s.qe s.els ihE (X++[(⟨32,0,0,0⟩:Ins)]) An_14 qn_14 hT.2.2 (by rw[aj,Xx,show X.length+1+1=X.length+2 from rfl];omega)) ?_;rintro _ _ ⟨An_15,qn_15,rfl,rfl⟩;refine Jz 3 ?_;refine dx ?_;obtain⟨Z1,hZ1⟩:∃z0,z0=((X++[(⟨32,0,0,0⟩:Ins)])++ovr (X++[(⟨32,0,0,0⟩:Ins)]).length (cB (C.cc F) (Ai s.els) ((X++[(⟨32,0,0,0⟩:Ins)]).length+1)) (Ai s.els).isEmpty):=⟨_,rfl⟩
 rw[←hZ1];refine Jz 7 ?_;refine Jr (Lh (i:=1) (j:=X.length) rfl rfl rfl s61 rfl (at4 hZ1)) ?_;refine Jz 1 ?_;refine To.u (cu (i:=1) rfl rfl rfl c3 rfl rfl (Qm (f:=2) (y:=(⟨32,0,0,0⟩:Ins)) (z:=(⟨32,0,((((X++[(⟨32,0,0,0⟩:Ins)]).length+(if(Ai s.els).isEmpty then 0 else 1)):Nat):Int),0⟩:Ins)) qU (at4 hZ1) de rfl)) ?_;refine Jn (Jbn (dx ?_));obtain⟨WF,hWF⟩:∃z0,z0=(Z1.set X.length (⟨32,0,((((X++[(⟨32,0,0,0⟩:Ins)]).length+(if(Ai s.els).isEmpty then 0 else 1)):Nat):Int),0⟩:Ins)):=⟨_,rfl⟩
 rw[←hWF];have hlWF:WF.length=Z1.length:=by rw[hWF];exact aNw ..
 (try unfold vs);rw[←hlWF]
 refine Df (Cr (Dr (.inr rfl) results181 ?_));have hE:WF=l++cS (C.cc F) s.pure l.length:=by rw[hfin,aEa hk];rw[Xx]at hZ1 hWF;exact aKy hZ1 hWF
 rw[←hE];exact⟨_,_,rfl⟩;refine Jz 6 ?_;refine aa rfl ?_ ?_<;>intro k169;have hk:s.kind=9:=om;have htl:=aOa List.length (aEb (c:=(C.cc F)) (n:=X.length) (top:=l.length) hk);rw[ag]at htl;refine Js (bv 2 rfl (ros Da C.Av C.vn) rfl (vQ) (Jfw [] [0,1,2,3,5,104,106,307,8,509,10] (jP _) ?_));refine Jz 7 ?_;refine Fw.qf (Kv C.Av C.qv C.vn s.name _ hC.v rfl) (jS (lS 0 rfl) (jP _)) ?_;refine df rfl (.bd [ui 33,iv (oI (bi s.name 0 C.vn)),iv 0,iv 0]) ?_;refine Dl [1,1] (Gx F C hC cb An_2 qn_2 X (⟨33,oI (bi s.name 0 C.vn),0,0⟩:Ins) (by simp only[aj,ag,bg];omega)) ?_;rintro _ _ ⟨An_16,qn_16,rfl,rfl⟩;refine⟨jP _,?_⟩;refine Jz 4 ?_;refine Bv 5 rfl (lsG Bc Bl s.Ae s.els) (Co _ _ _ _) (Fe s) (Jz 4 ?_);refine af [1,1,2,0] (nW F C hC cb x σ s.Ae s.qe s.els ihE (X++[(⟨33,oI (bi s.name 0 C.vn),0,0⟩:Ins)]) An_16 qn_16 hT.2.2 (by rw[aj,Xx,show X.length+1+1=X.length+2 from rfl];omega)) ?_;rintro _ _ ⟨An_17,qn_17,rfl,rfl⟩;refine Jz 3 ?_;refine dx ?_;obtain⟨Z1,hZ1⟩:∃z0,z0=((X++[(⟨33,oI (bi s.name 0 C.vn),0,0⟩:Ins)])++ovr (X++[(⟨33,oI (bi s.name 0 C.vn),0,0⟩:Ins)]).length (cB (C.cc F) (Ai s.els) ((X++[(⟨33,oI (bi s.name 0 C.vn),0,0⟩:Ins)]).length+1)) (Ai s.els).isEmpty):=⟨_,rfl⟩
 rw[←hZ1];refine Jz 7 ?_;refine Jr (Lh (i:=1) (j:=X.length) rfl rfl rfl s61 rfl (at4 hZ1)) ?_;refine Jz 1 ?_;refine To.u (cu (i:=1) rfl rfl rfl c3 rfl rfl (Qm (f:=2) (y:=(⟨33,oI (bi s.name 0 C.vn),0,0⟩:Ins)) (z:=(⟨33,oI (bi s.name 0 C.vn),((((X++[(⟨33,oI (bi s.name 0 C.vn),0,0⟩:Ins)]).length+(if(Ai s.els).isEmpty then 0 else 1)):Nat):Int),0⟩:Ins)) qU (at4 hZ1) de rfl)) ?_;refine Jn (Jbn (dx ?_));obtain⟨WF,hWF⟩:∃z0,z0=(Z1.set X.length (⟨33,oI (bi s.name 0 C.vn),((((X++[(⟨33,oI (bi s.name 0 C.vn),0,0⟩:Ins)]).length+(if(Ai s.els).isEmpty then 0 else 1)):Nat):Int),0⟩:Ins)):=⟨_,rfl⟩
 rw[←hWF];have hlWF:WF.length=Z1.length:=by rw[hWF];exact aNw ..
 (try unfold vs);rw[←hlWF]
 refine Gl (Df (Cr (Dr (.inr rfl) results181 ?_)));have hE:WF=l++cS (C.cc F) s.pure l.length:=by rw[hfin,aEb hk];rw[Xx]at hZ1 hWF;exact aKy hZ1 hWF
 rw[←hE];exact⟨_,_,rfl⟩;refine Jz 6 ?_;refine aa rfl ?_ ?_<;>intro k193;have hk:s.kind=10:=om;have htl:=aOa List.length (VO (c:=(C.cc F)) (n:=X.length) (top:=l.length) hk);rw[List.length_singleton]at htl;refine Jz 2 ?_;refine Jr (.bd [ui 34,iv 0,iv 0,iv 0]) ?_;refine af [0,0] (Gx F C hC cb An_2 qn_2 X (⟨34,0,0,0⟩:Ins) (by simp only[aj,ag,bg];omega)) ?_;rintro _ _ ⟨An_18,qn_18,rfl,rfl⟩;refine Jn (Jbn (Df (Cr (Dr (.inr rfl) results181 ?_))));have hE:X++[(⟨34,0,0,0⟩:Ins)]=l++cS (C.cc F) s.pure l.length:=by rw[hfin,VO hk]
 rw[←hE];exact⟨_,_,rfl⟩;refine Jz 2 ?_;refine Df (Cr (Dr (.inr rfl) results181 ?_));have hk:¬s.kind=1∧¬s.kind=2∧¬s.kind=3∧¬s.kind=4∧¬s.kind=5∧¬s.kind=6∧¬s.kind=7∧¬s.kind=8∧¬s.kind=9∧¬s.kind=10:=om;have hE:X=l++cS (C.cc F) s.pure l.length:=by rw[hfin,aKt hk];exact(aOo _).symm
 rw[←hE];exact⟨_,_,rfl⟩
theorem nX(F:Fl)(C:Cp)(hC:C.Low F)(cb:Nat)(x:Cm)(σ:Scp):∀s:St,∀(A:OA) (q:Nat) (l:List Ins),PS.Ty F x σ s.pure→(l++cS (C.cc F) s.pure l.length).length≤1000000→Dz 181 [pv cb, .agg (Bl s).toArray] [box cb (cR F C (vs A l q)) 131,rows Ins.cells 147 4 A q l,all (C.kids F),all (s.kids Bc Bl)] (fun v Γ'=>∃(A':OA) (q':Nat),Γ'=[box cb (cR F C (vs A' (l++cS (C.cc F) s.pure l.length) q')) 131,rows Ins.cells 147 4 A' q' (l++cS (C.cc F) s.pure l.length),all (C.kids F)])
 |s,A,q,l,ht,hl=>FQ F C hC cb x σ s (fun A q l ht hl=>aK F C hC cb x σ s.At s.qt s.thn (fun y hy=>nX F C hC cb x σ y) A q l ht hl) (fun A q l ht hl=>aK F C hC cb x σ s.Ae s.qe s.els (fun y hy=>nX F C hC cb x σ y) A q l ht hl) A q l ht hl
termination_by s=>SizeOf.sizeOf s
decreasing_by
 all_goals
  cases s with
  | mk k n h A q es At qt t Ae qe e=>
    have:=aPb hy;dsimp only at this;simp only[St.mk.sizeOf_spec];omega
theorem VV(F:Fl)(C:Cp)(hC:C.Low F)(cb:Nat)(x:Cm)(σ:Scp)(Ab:OA)(qb:Nat)(bs:List St):∀(A:OA) (q:Nat) (l:List Ins),Lr F x σ (Ai bs)→(l++cB (C.cc F) (Ai bs) l.length).length≤1000000→Dz 132 [pv cb,vs Ab bs qb] [box cb (cR F C (vs A l q)) 131,rows Ins.cells 147 4 A q l,all (C.kids F),all (lsG Bc Bl Ab bs)] (fun v Γ'=>∃(A':OA) (q':Nat),Γ'=[box cb (cR F C (vs A' (l++cB (C.cc F) (Ai bs) l.length) q')) 131,rows Ins.cells 147 4 A' q' (l++cB (C.cc F) (Ai bs) l.length),all (C.kids F)]):=fun A q l ht hl=>aK F C hC cb x σ Ab qb bs (fun y hy=>nX F C hC cb x σ y) A q l ht hl
theorem KC{s:yB}:∀{l:List yB} {k:Nat},s∈l→(bi s k l).isSome=true
 |[],_,h=>by cases h
 | x ::r,k,h=>by
   by_cases hx:x=s
   ·rw[bi,aOn hx];rfl
   · rw[bi,aNy hx]
     rcases aNx.1 h with h|h
     ·exact aOx h.symm hx
     ·exact KC h
theorem aCg{s:yB}{l:List yB}{k:Nat}(h:(bi s k l).isSome=false):s∉l:=fun hm=>by rw[KC hm]at h;cases h
theorem VW{s:yB}:∀{l:List yB} {k:Nat},(bi s k l).isSome=true→s∈l
 |[],_,h=>by cases h
 | x::r,k,h=>by
   by_cases hx:x=s
   ·rw[hx];exact aNu ..
   ·rw[bi,aNy hx]at h;exact aNs _ (VW h)
def Cp.at(C:Cp)(h:Hd):Cp:={C with Ap:=h.Ap,qp:=h.qp,ps:=h.ps}
structure aHg(F:Fl)(ci:Nat)(c:Cm)(C:Cp):Prop where
 hs:C.hs.map HN.l=F.comps.map fun c=>av (c.vers.map Vs.pure)
 own:C.own=ci
 vn:C.vn=Ny c.vars false
 tn:C.tn=Ny c.vars true
 fn:C.fn=F.flags.map Fg.name
theorem aKz{F:Fl}{ci:Nat}{c:Cm}{C:Cp}(h:aHg F ci c C)(x:Hd):(C.at x).cc F=ccP F.pure ci c.vars x.ps:=by
 have e1:F.pure.comps.map PC.name=F.comps.map Cm.name:=by show(F.comps.map Cm.pure).map PC.name=_;rw[aQe];rfl
 have e2:(F.pure.comps.map fun c=>av c.vers)=C.hs.map HN.l:=by rw[h.hs];show(F.comps.map Cm.pure).map _=_;rw[aQe];rfl
 have e3:F.pure.flags=F.flags:=rfl;unfold Cp.cc ccP;simp only[zP,Cp.at,h.vn,h.tn,h.fn,h.own,e1,e2,e3];rfl
abbrev aLa(F:Fl)(ci:Nat)(c:Cm)(x:Hd):List Ins:=cB (ccP F.pure ci c.vars x.ps) (Ai x.body) 0
theorem VX{F:Fl}(h:Nn F.pure){ci:Nat}{c:Cm}(hc:F.comps[ci]?=some c){v:Vs}(hv:v∈c.vers){x:Hd}(hx:x∈v.l):aLa F ci c x=Nh F c x:=by
 obtain⟨ct,ar,ok⟩:=h.okC (Yw hc);have hgv:=ok.vers v.pure (aOm.2 ⟨v,hv,rfl⟩);obtain⟨k,hk⟩:=aPr hx;have gh:=hgv.2.2 k x.pure (by show(v.l.map Hd.pure)[k]?=_;rw[aOf,hk];rfl);obtain⟨np,hnp,hps,hst⟩:=gh.ps;have hnp2:np≤2:=(ok.ok.each ar (sN ok.arr)).2.2 np (sN hnp);have hps:x.ps=nms 112 np:=hps;have hst:∀s∈Ai x.body,StE ct np 3 s:=hst;show cB (ccP F.pure ci c.vars x.ps) _ 0=cB (ccR F.pure c.name c.vars x.ps) _ 0;rw[hps];exact Vm _ _ fun s hs p=>(hst s hs).same (ok.isP hnp2) (ok.isR hnp2) p
structure mE(F:Fl)(c:Cm)(C:Cp)(x:Hd):Prop where
 eq:cB ((C.at x).cc F) (Ai x.body) 0=Nh F c x
 ps:x.ps.length≤2
 len:(Nh F c x).length≤3816
 form:∀i∈Nh F c x,Va ((x.ps.length:Nat):Int) (Nh F c x).length i=true
theorem aCh{F:Fl}(h:Nn F.pure){ci:Nat}{c:Cm}(hc:F.comps[ci]?=some c){C:Cp}(hC:aHg F ci c C){v:Vs}(hv:v∈c.vers){x:Hd}(hx:x∈v.l):mE F c C x:=by
 have g:=OU h hc hv hx;have hp:=g.ps;exact⟨by rw[aKz hC];exact VX h hc hv hx,g.ps,g.len,fun i hi=>by rw[←aAd om];exact g.form i hi⟩
def zX(F:Fl)(c:Cm)(x:Hd)(A:OA)(q:Nat):PU:=⟨x.ps.length,(Qk (Nh F c x)).1,A,q,Nh F c x⟩
theorem nY{Γ:List Ad}{w:wD}{α:Type}{enc:α→List vU}{size:Nat}(E:Enc enc size)(hp:0<size){A:OA}{l:List α}(hA:A.isNone=true)(i:Nat)(h:Γ[i]?=some (ros enc A l))(hs:sat Γ w):l=[]:=by
 cases hl:l with
 |nil=>rfl
 | cons x r=>
   have:=QM E hp (A:=A) (l:=l) (by rw[hl];simp) i h hs;rw[hA]at this;cases this
theorem OX(A:OA)(q:Nat)(l:List yB)(hl:l.length≤1000000):
    Dz 78 [vs A l q] [ros Da A l] (fun v Γ'=>∃B p,v=vs B l p∧Γ'=[rows Da 9 1 B p l]):=by
 refine Ba func78 ntmps78 fun w0=>?_;refine Jz 9 ?_;refine Jr (Cs (v':= .bool A.isNone) rfl (kJ (A:=A) rfl underlying54 rfl rfl)) ?_;refine Jn (Jt (Ee rfl (fun c4=>?_) (fun c4=>?_)));refine Js (pM (p:=l=[]) (fun w hw=>nY Di de c4 0 rfl hw) (fun hl0=>?_));subst hl0;refine Eb (enc:=Da) (e:=9) (size:=1) (Jz 6 ?_);refine Eg [0] rfl (ak results78 ?_);exact⟨_,_,rfl,rfl⟩;refine Jz 4 ?_;refine Jmk rfl rfl rfl (Zo (enc:=Da) rfl s54) ?_;rintro _ _ ⟨A5,rfl,rfl⟩;refine Jm ?_;refine Jge rfl rfl rfl (Kw Di (i:=0) (m:=l) rfl s54 rfl rfl rfl (BZ (i:=1) rfl) om om) ?_;rintro _ _ ⟨A7,q7,rfl,rfl⟩;refine Jz 4 ?_;refine Eg [0] rfl (ak results78 ?_);exact⟨_,_,rfl,rfl⟩
theorem rW(A:OA)(q:Nat)(l:List PU)(hl:l.length≤1000000):
    Dz 89 [vs A l q] [ros Uf A l] (fun v Γ'=>∃B p,v=vs B l p∧Γ'=[rows Uf 63 3 B p l]):=by
 refine Ba func89 ntmps89 fun w0=>?_;refine Jz 9 ?_;refine Jr (Cs (v':= .bool A.isNone) rfl (kJ (A:=A) rfl underlying143 rfl rfl)) ?_;refine Jn (Jt (Ee rfl (fun c4=>?_) (fun c4=>?_)));refine Js (pM (p:=l=[]) (fun w hw=>nY dN de c4 0 rfl hw) (fun hl0=>?_));subst hl0;refine Eb (enc:=Uf) (e:=63) (size:=3) (Jz 6 ?_);refine Eg [0] rfl (ak results89 ?_);exact⟨_,_,rfl,rfl⟩;refine Jz 4 ?_;refine Jmk rfl rfl rfl (Zo (enc:=Uf) rfl aFq) ?_;rintro _ _ ⟨A5,rfl,rfl⟩;refine Jm ?_;refine Jge rfl rfl rfl (Kw dN (i:=0) (m:=l) rfl aFq rfl rfl rfl (BZ (i:=1) rfl) om om) ?_;rintro _ _ ⟨A7,q7,rfl,rfl⟩;refine Jz 4 ?_;refine Eg [0] rfl (ak results89 ?_);exact⟨_,_,rfl,rfl⟩
theorem rX(A:OA)(q:Nat)(l:List Bool)(hl:l.length≤1000000):
    Dz 90 [vs A l q] [ros Vy A l] (fun v Γ'=>∃B p,v=vs B l p∧Γ'=[rows Vy 4 1 B p l]):=by
 refine Ba func90 ntmps90 fun w0=>?_;refine Jz 9 ?_;refine Jr (Cs (v':= .bool A.isNone) rfl (kJ (A:=A) rfl underlying142 rfl rfl)) ?_;refine Jn (Jt (Ee rfl (fun c4=>?_) (fun c4=>?_)));refine Js (pM (p:=l=[]) (fun w hw=>nY nV de c4 0 rfl hw) (fun hl0=>?_));subst hl0;refine Eb (enc:=Vy) (e:=4) (size:=1) (Jz 6 ?_);refine Eg [0] rfl (ak results90 ?_);exact⟨_,_,rfl,rfl⟩;refine Jz 4 ?_;refine Jmk rfl rfl rfl (Zo (enc:=Vy) rfl aFp) ?_;rintro _ _ ⟨A5,rfl,rfl⟩;refine Jm ?_;refine Jge rfl rfl rfl (Kw nV (i:=0) (m:=l) rfl aFp rfl rfl rfl (BZ (i:=1) rfl) om om) ?_;rintro _ _ ⟨A7,q7,rfl,rfl⟩;refine Jz 4 ?_;refine Eg [0] rfl (ak results90 ?_);exact⟨_,_,rfl,rfl⟩
theorem OY(c:Cm)(hcv:c.vers.length≤2)(hvs:∀v∈c.vers,v.l.length≤3):
    Dz 49 [.agg (cX c []).toArray] [all (c.kids eX)] (fun v Γ'=>∃(A:OA) (q:Nat),v= .slice A (av (c.vers.map Vs.pure)).length q∧Γ'=[rows Da 9 1 A q (av (c.vers.map Vs.pure))]):=by
 refine Ba func49 ntmps49 fun w0=>?_;refine Js (cz (Jbo fun b1=>?_));refine Jz 10 ?_;refine bv 1 rfl (ros Fb c.An c.vers) rfl (Ij (k:=eX)) (Jz 8 ?_);refine Eb (enc:=Da) (e:=9) (size:=1) (Bw (fun s g mz ρ Γ=>∃(Ao:OA) (qo:Nat) (O:List yB) (j:Nat),ρ=[s 1,(3,vs Ao O qo),s 9,s 10,(11,nv j)]∧Γ=[g 2,g 3,g 1,rows Da 9 1 Ao qo O]∧mz=c.vers.length-j∧(j≤c.vers.length)∧(av (c.vers.map Vs.pure)=((c.vers.drop j).map Vs.pure).foldl cO O)∧(O.length≤3*j)) ⟨⟨none,0,([]:List yB),0,rfl,rfl,rfl,(aOk _),rfl,(aOk _)⟩,sb⟩ ?_);rintro mz _ _ ⟨Ao,qo,O,j,rfl,rfl,rfl,hj,hO,hOl⟩;refine Jz 6 ?_;refine aa rfl ?_ ?_<;>intro k12;obtain⟨v,hv⟩:=ai c.vers j om;have hvl:=hvs v (sN hv);refine Jz 8 ?_;refine ae fun b5=>?_;refine Jz 4 ?_;refine bv 2 rfl (ros Iu v.A v.l) rfl (Gw hv _ Qs) (Jz 8 ?_);refine Bw (fun s g mz ρ Γ=>∃(Ao:OA) (qo:Nat) (O:List yB) (k:Nat),ρ=[s 1,(3,vs Ao O qo),s 9,s 10,s 11,s 16,s 17,(18,nv k)]∧Γ=[g 2,g 3,g 4,g 0,rows Da 9 1 Ao qo O]∧mz=v.l.length-k∧(k≤v.l.length)∧(av (c.vers.map Vs.pure)=((c.vers.drop (j+1)).map Vs.pure).foldl cO (cO O ((v.l.drop k).map Hd.pure)))∧(O.length≤3*j+k)) ⟨⟨Ao,qo,O,0,rfl,rfl,rfl,(aOk _),(by rw[hO,mdg _ hv];rfl),om⟩,sb⟩ ?_;rintro mz _ _ ⟨Ao,qo,O,k,rfl,rfl,rfl,hk,hO1,hOl1⟩;refine Jz 6 ?_;refine aa rfl ?_ ?_<;>intro k19;obtain⟨y,hy⟩:=ai v.l k om;refine Jz 8 ?_;refine ae fun b7=>?_;refine Jz 8 ?_;refine Jvf (Te Ao qo O y.name _ om rfl) rfl (jS (Oq 5 rfl) (jP _)) ?_;refine Jz 3 ?_;refine Ee rfl ?_ ?_<;>intro k26;have hm:¬(y.pure).name∈O:=show¬y.name∈O from aCg (k:=0) (by simpa using k26);refine Jz 4 ?_;refine Ew [.string y.name] fun b30=>?_;refine Jge rfl rfl rfl (Bz Di (i:=6) (j:=0) (el:=y.name) rfl s54 rfl rfl rfl rfl rfl om om) ?_;rintro _ _ ⟨A31,q31,rfl,rfl⟩;refine Jz 9 ?_;refine Bp ⟨⟨A31,q31,(O++[y.name]),k+1,rfl,rfl,rfl,om,(by rw[hO1,mdg _ hy,nT,aNy hm];rfl),(by rw[aj];show O.length+1≤_;omega)⟩,sb⟩;have hm:(y.pure).name∈O:=show y.name∈O from VW (k:=0) (by simpa using k26);refine Jz 8 ?_;refine Bp ⟨⟨Ao,qo,O,k+1,rfl,rfl,rfl,om,(by rw[hO1,mdg _ hy,nT,aOn hm]),om⟩,sb⟩;refine Jz 11 ?_;refine Bp ⟨⟨Ao,qo,O,j+1,rfl,rfl,rfl,om,(by rw[hO1,aPz om];rfl),om⟩,sb⟩;refine Jz 12 ?_;refine Cb (Ci (Cg (ak results49 ?_)));exact⟨Ao,qo,by rw[hO,aPz om];rfl,by rw[hO,aPz om];rfl⟩
theorem VY(F:Fl)(c:Cm)(C:Cp)(hC:C.Low F)(cb:Nat)(h:Hd)(hps:h.ps.length≤2)(hT:TyH F c h)(hG:mE F c C h)(Ax Ay:OA)(nx qx ny qy:Nat):
    Dz 88 [pv cb, .agg (Iu h).toArray] [box cb (cF F [vs C.Ah C.hs C.qh,nv C.own,vs C.Av C.vn C.qv,vs C.At C.tn C.qt,vs C.Af C.fn C.qf, .slice Ax nx qx, .slice Ay ny qy]) 131,all (C.kids F),all (h.kids eX),Gz] (fun v Γ'=>∃(A:OA) (q:Nat),v= .agg (Uf (zX F c h A q)).toArray∧Γ'=[box cb (cF F [vs C.Ah C.hs C.qh,nv C.own,vs C.Av C.vn C.qv,vs C.At C.tn C.qt,vs C.Af C.fn C.qf,vs h.Ap h.ps h.qp,vs A (Nh F c h) q]) 131,rows Ins.cells 147 4 A q (Nh F c h),all (C.kids F)]):=by
 have hcl:=hG.len;refine Ba func88 ntmps88 fun w0=>?_;refine Js (cz (Jbo fun b3=>?_));refine ae fun b4=>?_;refine Jz 17 ?_;have hC':(C.at h).Low F:=⟨by show h.ps.length≤12;omega,hC.v,hC.t,hC.f,hC.c,hC.h,hC.o,hC.each⟩
 have hce:[]++cB ((C.at h).cc F) (Ai h.body) ([]:List Ins).length=Nh F c h:=hG.eq;have hcb:=VV F (C.at h) hC' cb c ⟨F.Af,F.qf,F.flags,c.Av,c.qv,c.vars,h.Ap,h.qp,h.ps⟩ h.Ab h.qb h.body none 0 [] hT.body (by rw[hce];omega);rw[hce]at hcb;refine Eb (enc:=Ins.cells) (e:=147) (size:=4) (Bv 5 rfl (lsG Bc Bl h.Ab h.body) (Co _ _ _ _) (Nf (k:=eX)) (bv 6 rfl (ros Da h.Ap h.ps) rfl (Yr (k:=eX)) (Bv 6 rfl ((C.kids F).tail) (fun z hz=>Cp.lax F C z (List.mem_of_mem_tail hz)) (fun z hz=>List.mem_of_mem_tail hz) (Kj (Cw (Jz 4 ?_))))));refine af [5,2,0,0] (hcb) ?_;rintro _ _ ⟨Ak,qk,rfl⟩;refine Jz 8 ?_;refine Jvf (DZ ((h.ps.length:Nat):Int) Ak qk (Nh F c h) om hG.form) rfl (jS (Oq 1 rfl) (jS (lS 7 rfl) (jP _))) ?_;refine Jz 8 ?_;refine Jfw [] [0,3,4,5,6,101,2,107,8,509] (jP _) ?_;refine Jz 8 ?_;refine df rfl (.bd [nv h.ps.length,iv ((Qk (Nh F c h)).1),vs Ak (Nh F c h) qk]) ?_;refine dh rfl rfl rfl (Cf (i:=3) rfl rfl rfl r63 rfl rfl rfl (bta rfl)) (jP _) ?_;refine Jz 3 ?_;refine Ec [0,0,3] results88 ?_;exact⟨Ak,qk,rfl,rfl⟩
structure Stl where
 own:Nat
 A1:OA
 n1:Nat
 q1:Nat
 A2:OA
 n2:Nat
 q2:Nat
 A3:OA
 n3:Nat
 q3:Nat
 A4:OA
 n4:Nat
 q4:Nat
 A5:OA
 n5:Nat
 q5:Nat
def iD(F:Fl)(Ah:OA)(hs:List HN):List Ad:=ros Vx Ah hs::ros Gu F.Ac F.comps::hs.map (fun h=>ros Da h.A h.l)
theorem rY(F:Fl)(Ah:OA)(hs:List HN):Lax (iD F Ah hs):=eu rfl (eu rfl (by rw[dL];exact Gp fun h _=>jK))
theorem zY{F:Fl}{Ah:OA}{hs:List HN}{i:Nat}{h:HN}(hh:hs[i]?=some h):ros Da h.A h.l∈iD F Ah hs:=aNs _ (aNs _ (aOm.2 ⟨h,sN hh,rfl⟩))
theorem VZ{F:Fl}{Ah:OA}{hs:List HN}:ros Vx Ah hs∈iD F Ah hs:=aNu ..
theorem Yx{l:List Vr}{k:Nat}{y:Vr}(h:l[k]?=some y)(tab:Bool):Ny (l.take (k+1)) tab=Ny (l.take k) tab++(if decide (y.ty=3)==tab then [y.name]else []):=by
 rw[Cj h];unfold Ny;rw[List.filter_append,aOb];congr 1;cases e:decide (y.ty=3)==tab
 ·rw[List.filter_cons_of_neg (by simpa using e)];rfl
 ·rw[List.filter_cons_of_pos (by simpa using e)];rfl
theorem KD(l:List Vr)(tab:Bool):(Ny l tab).length≤l.length:=by unfold Ny;rw[aNv];exact List.length_filter_le ..
theorem OZ(s:yB)(o:oP Hd){l:List Hd}{m:Nat}{y:Hd}(h:l[m]?=some y):OT s o (l.take (m+1))=if y.name=s then some y else OT s o (l.take m):=by
 rw[Cj h];unfold OT;rw[List.foldl_append];rfl
theorem PD(s:yB)(o:oP Hd){l:List Vs}{j:Nat}{v:Vs}(h:l[j]?=some v):zJ s o (l.take (j+1))=OT s (zJ s o (l.take j)) v.l:=by
 rw[Cj h];unfold zJ;rw[List.foldl_append];rfl
def UAt(F:Fl)(c:Cm)(u:PU)(b:Bool):oP Hd→Prop
 |none=>u=zPU∧b=false
 |some h=>b=true∧∃A q,u=zX F c h A q
structure dP(F:Fl)(c:Cm)(names:List yB)(o:yB→oP Hd)(U:List PU)(B:List Bool):Prop where
 u:U.length=names.length
 b:B.length=names.length
 at_:∀(k:Nat) (s:yB),names[k]?=some s→∃u b,U[k]?=some u∧B[k]?=some b∧UAt F c u b (o s)
section
variable{F:Fl}{c:Cm}{names:List yB}{o o':yB→oP Hd}{U:List PU}{B:List Bool}
theorem dP.init:dP F c names (fun _=>none) (List.replicate names.length zPU) (List.replicate names.length false):=⟨aPc ..,aPc ..,fun k s h=>by
 have hk:=(aNr.1 h).1;exact⟨zPU,false,by rw[List.getElem?_replicate,aOn hk],by rw[List.getElem?_replicate,aOn hk],rfl,rfl⟩⟩
theorem dP.congr(h:dP F c names o U B)(e:∀s,o' s=o s):dP F c names o' U B:=by
 obtain rfl:o'=o:=funext e;exact h
theorem dP.step{nn m:Nat}{y:Hd}{A:OA}{q:Nat}(h:dP F c names o U B)(hn:names=nms 104 nn)(hnn:nn≤3)(hy:y.name=nm 104 m)(hm:m<nn)(e:∀s,o' s=if y.name=s then some y else o s):dP F c names o' (U.set m (zX F c y A q)) (B.set m true):=by
 have hln:names.length=nn:=by rw[hn,Dq]
 refine⟨by rw[aNw];exact h.u,by rw[aNw];exact h.b,fun k s hk=>?_⟩;have hkl:=(aNr.1 hk).1;have hs:s=nm 104 k:=by rw[hn,Dw om]at hk;exact(aOj hk).symm
 have hu:=h.u;have hb:=h.b;by_cases e1:m=k
 · subst e1
   refine⟨zX F c y A q,true,List.getElem?_set_self om,List.getElem?_set_self om,?_⟩;rw[e,aOn (by rw[hy,hs])];exact⟨rfl,A,q,rfl⟩
 · obtain⟨u,b,h1,h2,h3⟩:=h.at_ k s hk
   refine⟨u,b,by rw[List.getElem?_set_ne e1];exact h1,by rw[List.getElem?_set_ne e1];exact h2,?_⟩;rw[e,aNy (fun e2=>?_)]
   ·exact h3
   · rw[hy,hs]at e2
     exact e1 (Pq de de om om e2).2
end
def nZ(F:Fl)(c:Cm)(names:List yB)(us:List PV)(fs:List PB):Prop:=∀(i:Nat) (v:PV) (b:PB),us[i]?=some v→fs[i]?=some b→dP F c names (fun s=>zJ s none (c.vers.take (i+1))) v.l b.l
theorem nZ.push{F:Fl}{c:Cm}{names:List yB}{us:List PV}{fs:List PB}{j:Nat}{v:PV}{b:PB}(h:nZ F c names us fs)(hu:us.length=j)(hf:fs.length=j)(hv:dP F c names (fun s=>zJ s none (c.vers.take (j+1))) v.l b.l):nZ F c names (us++[v]) (fs++[b]):=fun i v' b' h1 h2=>by
 by_cases e:i<j
 · rw[aOu om]at h1 h2
   exact h i v' b' h1 h2
 · have hl:=(aNr.1 h1).1
   rw[aj]at hl;have hl:i<us.length+1:=hl;obtain rfl:i=j:=om;rw[aPj om]at h1 h2;rw[hu,aQf]at h1;rw[hf,aQf]at h2;obtain rfl:v=v':=by simpa using h1
   obtain rfl:b=b':=by simpa using h2
   exact hv
structure aHh(F:Fl)(c:Cm)(p:PP):Prop where
 names:p.names=av (c.vers.map Vs.pure)
 ul:p.us.length=c.vers.length
 fl:p.fs.length=c.vers.length
 inv:nZ F c p.names p.us p.fs
structure CmW(c:Cm)(nn:Nat):Prop where
 hn:av (c.vers.map Vs.pure)=nms 104 nn
 n3:nn≤3
 each:∀v∈c.vers,∀(m:Nat) (y:Hd),v.l[m]?=some y→y.name=nm 104 m∧m<nn
theorem cmW{F:Fl}(h:Nn F.pure){ci:Nat}{c:Cm}(hc:F.comps[ci]?=some c):∃nn,CmW c nn:=by
 obtain⟨ct,ar,ok⟩:=h.okC (Yw hc);have har:=ok.ok.each ar (sN ok.arr);refine⟨ar.length,ok.hn,har.2.1,fun v hv m y hy=>?_⟩;have gv:=ok.vers v.pure (aOm.2 ⟨v,hv,rfl⟩);have gh:=gv.2.2 m y.pure (by show(v.l.map Hd.pure)[m]?=_;rw[aOf,hy];rfl);have hpl:v.pure.length=v.l.length:=aNv ..;exact⟨gh.name,by have h2:=gv.2.1;have h3:m<v.l.length:=(aNr.1 hy).1;omega⟩
theorem aCi{U:List PU}{m:Nat}{u:PU}:∀c∈kUs (U.set m u),c∈ros Ins.cells u.A u.l::kUs U:=fun c hc=>by
 obtain⟨u',hu,hc⟩:=aOs.1 hc;obtain rfl:=aNz.1 hc;rcases List.mem_or_eq_of_mem_set hu with h|rfl
 ·exact aNs _ (aOs.2 ⟨u',h,aNu ..⟩)
 ·exact aNu ..
section
variable{C:Cx}{ρ:Bj}{Γ:List Ad}{K:Act→wD→Prop}
theorem KE:∀(n:Nat),To C ρ (all (kUs (List.replicate n zPU))::Γ) K→To C ρ Γ K
 |0,k=>Hz k
 |n+1,k=>KE n (Eb (enc:=Ins.cells) (e:=0) (size:=4) (Dp (Cw k)))
end
def ClR{α:Type}(enc:α→List vU)(t:tI)(size:Nat)(l:List α):vU→List Ad→Prop:=fun v Γ'=>∃(B:OA) (p:Nat),v=vs B l p∧Γ'=[rows enc t size B p l]
def kPB(b:PB):List Ad:=[ros Vy b.A b.l]
theorem zZ(F:Fl)(hF:Nn F.pure)(hF0:Mq F)(ci:Nat)(c:Cm)(hc:F.comps[ci]?=some c)(hcg:c.Good)(hT:TyC F ci c)(nn:Nat)(hW:CmW c nn)(Ah:OA)(qh:Nat)(hs:List HN)(hn:HN)(hhn:hs[ci]?=some hn)(hnl:hn.l=nms 104 nn)(hhs:hs.map HN.l=F.comps.map fun c=>av (c.vers.map Vs.pure))(hh12:∀h∈hs,h.l.length≤12)(cb:Nat)(z:Stl):
    Dz 50 [pv cb,nv ci] [box cb (cF F [vs Ah hs qh,nv z.own, .slice z.A1 z.n1 z.q1, .slice z.A2 z.n2 z.q2, .slice z.A3 z.n3 z.q3, .slice z.A4 z.n4 z.q4, .slice z.A5 z.n5 z.q5]) 131,all (iD F Ah hs),all (F.kids eX),Gz] (fun v Γ'=>∃(p:PP) (z':Stl),v= .agg (dO p).toArray∧Γ'=[box cb (cF F [vs Ah hs qh,nv z'.own, .slice z'.A1 z'.n1 z'.q1, .slice z'.A2 z'.n2 z'.q2, .slice z'.A3 z'.n3 z'.q3, .slice z'.A4 z'.n4 z'.q4, .slice z'.A5 z'.n5 z'.q5]) 131,all p.kids]∧aHh F c p):=by
 have hFf:=hF0.flags;have hcv:=hcg.vars;have hcn:=hcg.vers2;refine Ba func50 ntmps50 fun w0=>?_;refine Js (cz (ae fun b4=>?_));refine Jz 3 ?_;refine bv 3 rfl (ros Gu F.Ac F.comps) rfl (Gj (k:=eX)) (Jz 9 ?_);refine ae fun b5=>?_;refine Jz 26 ?_;refine bv 5 rfl (ros Gb F.Af F.flags) rfl (Mj (k:=eX)) (Jz 11 ?_);refine Eb (enc:=Da) (e:=9) (size:=1) (Bw (fun s g mz ρ Γ=>∃(Az:OA) (qz:Nat) (fl:List yB) (j:Nat),ρ=[s 0,s 1,s 4,s 5,s 43,s 44,(45,nv j)]∧Γ=[box cb (cF F [vs Ah hs qh,nv ci,nz,nz,vs Az fl qz, .slice z.A4 z.n4 z.q4, .slice z.A5 z.n5 z.q5]) 131,g 4,g 2,g 6,g 7,Gz,g 1,rows Da 9 1 Az qz fl]∧mz=F.flags.length-j∧(j≤F.flags.length)∧(fl=(F.flags.take j).map Fg.name)) ⟨⟨none,0,([]:List yB),0,rfl,rfl,rfl,(aOk _),rfl⟩,sb⟩ ?_);rintro mz _ _ ⟨Az,qz,fl,j,rfl,rfl,rfl,hj,hfl⟩;have hfll:fl.length=j:=by rw[hfl,aNv,aOh];omega
 refine Jz 6 ?_;refine aa rfl ?_ ?_<;>intro k46;obtain⟨y,hy⟩:=ai F.flags j om;refine Jz 8 ?_;refine ae fun b7=>?_;refine Jz 3 ?_;refine Jfw [] [0,1,2,3,5,104,106,207,8508,9,10,511] (jP _) ?_;refine Jz 7 ?_;refine En [.string y.name] fun b56=>?_;refine Fw.ge rfl rfl rfl rfl (Bz Di (i:=9) (j:=0) (el:=y.name) rfl s54 rfl rfl rfl rfl rfl om om) ?_;rintro _ _ ⟨A57,q57,rfl,rfl⟩;refine⟨jP _,?_⟩;refine Jz 2 ?_;refine dh rfl rfl rfl (cu (i:=2) rfl rfl rfl c54 rfl rfl (bt1 rfl)) (jP _) ?_;refine Jz 8 ?_;refine Bp ⟨⟨A57,q57,(fl++[y.name]),j+1,rfl,rfl,rfl,om,(by rw[Cj hy,aOb,hfl];rfl)⟩,sb⟩;refine Jz 7 ?_;refine bv 4 rfl (ros He c.Av c.vars) rfl (Dh hc _ Nc) (Jz 8 ?_);refine Eb (enc:=Da) (e:=9) (size:=1) (Eb (enc:=Da) (e:=9) (size:=1) (Bw (fun s g mz ρ Γ=>∃(Av:OA) (qv:Nat) (vn:List yB) (At:OA) (qt:Nat) (tn:List yB) (k:Nat),ρ=[s 0,s 1,s 4,s 5,(62,vs c.Av c.vars c.qv),s 63,(64,nv k)]∧Γ=[box cb (cF F [vs Ah hs qh,nv ci,vs Av vn qv,vs At tn qt,vs Az fl qz, .slice z.A4 z.n4 z.q4, .slice z.A5 z.n5 z.q5]) 131,g 4,g 5,g 6,g 7,Gz,ros He c.Av c.vars,g 10,rows Da 9 1 Av qv vn,rows Da 9 1 At qt tn]∧mz=c.vars.length-k∧(k≤c.vars.length)∧(vn=Ny (c.vars.take k) false)∧(tn=Ny (c.vars.take k) true)) ⟨⟨none,0,([]:List yB),none,0,([]:List yB),0,rfl,rfl,rfl,(aOk _),rfl,rfl⟩,sb⟩ ?_));rintro mz _ _ ⟨Av,qv,vn,At,qt,tn,k,rfl,rfl,rfl,hk,hvn,htn⟩;have hvl:=KD (c.vars.take k) false;have htl:=KD (c.vars.take k) true;rw[←hvn,aOh]at hvl;rw[←htn,aOh]at htl;refine Jz 6 ?_;refine aa rfl ?_ ?_<;>intro k65;obtain⟨y,hy⟩:=ai c.vars k om;refine Jz 8 ?_;refine ae fun b9=>?_;refine Jz 10 ?_;refine aa rfl ?_ ?_<;>intro k70;refine Jfw [] [0,1,2,3,5,104,106,207,8508,9,10,511] (jP _) ?_;refine Jz 7 ?_;refine En [.string y.name] fun b78=>?_;refine Fw.ge rfl rfl rfl rfl (Bz Di (i:=11) (j:=0) (el:=y.name) rfl s54 rfl rfl rfl rfl rfl om om) ?_;rintro _ _ ⟨A79,q79,rfl,rfl⟩;refine⟨jP _,?_⟩;refine Jz 2 ?_;refine dh rfl rfl rfl (cu (i:=2) rfl rfl rfl c54 rfl rfl (bt1 rfl)) (jP _) ?_;refine Jz 8 ?_;refine Bp ⟨⟨Av,qv,vn,A79,q79,(tn++[y.name]),k+1,rfl,rfl,rfl,om,(by rw[Yx hy,←hvn,show(decide (y.ty=3)==false)=false from by rw[aOv om];rfl];exact(aOo _).symm),(by rw[Yx hy,←htn,show(decide (y.ty=3)==true)=true from by rw[aOv om];rfl];rfl)⟩,sb⟩;refine Jfw [] [0,1,2,3,5,104,106,207,8508,9,10,511] (jP _) ?_;refine Jz 7 ?_;refine En [.string y.name] fun b89=>?_;refine Fw.ge rfl rfl rfl rfl (Bz Di (i:=10) (j:=0) (el:=y.name) rfl s54 rfl rfl rfl rfl rfl om om) ?_;rintro _ _ ⟨A90,q90,rfl,rfl⟩;refine⟨jP _,?_⟩;refine Jz 2 ?_;refine dh rfl rfl rfl (cu (i:=2) rfl rfl rfl c54 rfl rfl (bt1 rfl)) (jP _) ?_;refine Jz 8 ?_;refine Bp ⟨⟨A90,q90,(vn++[y.name]),At,qt,tn,k+1,rfl,rfl,rfl,om,(by rw[Yx hy,←hvn,show(decide (y.ty=3)==false)=true from by rw[aPe om];rfl];rfl),(by rw[Yx hy,←htn,show(decide (y.ty=3)==true)=false from by rw[aPe om];rfl];exact(aOo _).symm)⟩,sb⟩;refine Jz 6 ?_;refine bv 3 rfl (ros Vx Ah hs) rfl (VZ) (Jz 8 ?_);refine Jr (.bd [vs hn.A hn.l hn.q,nz,nz]) ?_;refine ae fun b10=>?_;refine Jz 4 ?_;have hflE:fl=F.flags.map Fg.name:=by rw[hfl,aOq om]
 have hvnE:vn=Ny c.vars false:=by rw[hvn,aOq om]
 have htnE:tn=Ny c.vars true:=by rw[htn,aOq om]
 refine Bv 5 rfl (iD F Ah hs) (rY F Ah hs) (fun z hz=>hz) (kN (Dp (Cw (Qu (Dp (Cw (kN (Dp (Cw (Eb (enc:=Da) (e:=9) (size:=1) (Dp (Cw ?_))))))))))));have hCp:aHg F ci c (⟨Ah,qh,hs,ci,Av,qv,vn,At,qt,tn,Az,qz,fl,none,0,[]⟩:Cp):=⟨hhs,rfl,hvnE,htnE,hflE⟩
 have hhl:=aOa List.length hhs;rw[aNv,aNv]at hhl;have hFc:=hF0.comps;have hCl:Cp.Low F (⟨Ah,qh,hs,ci,Av,qv,vn,At,qt,tn,Az,qz,fl,none,0,[]⟩:Cp):=⟨aOk _,by show vn.length≤12;omega,by show tn.length≤12;omega,by show fl.length≤12;omega,by omega,hhl,(aNr.1 hhn).1,hh12⟩
 have hnl3:hn.l.length≤3:=by rw[hnl,Dq];exact hW.n3
 refine Oy [] [⟨0,[],0⟩,⟨4,[],0⟩,⟨1,[],1⟩,⟨2,[],0⟩,⟨3,[],2⟩,⟨8,[3],0⟩,⟨5,[],1⟩,⟨6,[],0⟩,⟨7,[],2⟩,⟨9,[3,7],0⟩] mixed.h kr (jP _) (Jz 4 ?_);refine Fw.mk rfl rfl rfl rfl rfl (Mv (enc:=Uf) (z:=zPU) (n:=hn.l.length) rfl de rfl aFq rfl rfl om (by simp only[maxLen];omega)) ?_;rintro _ _ ⟨b105,rfl,rfl⟩;refine Jz 3 ?_;refine Fw.mk rfl rfl rfl rfl rfl (Sq (enc:=Vy) (z:=false) (n:=hn.l.length) rfl rfl aFp rfl rfl om (by simp only[maxLen];omega)) ?_;rintro _ _ ⟨b109,rfl,rfl⟩;refine Jz 5 ?_;refine bv 9 rfl (ros Fb c.An c.vers) rfl (Dh hc _ Ij) (Jz 8 ?_);refine Eb (enc:=zQ) (e:=143) (size:=1) (Eb (enc:=zS) (e:=142) (size:=1) (Hz (Hz (KE hn.l.length (Bw (fun u g mz ρ Γ=>∃(Ax:OA) (nx:Nat) (qx:Nat) (Ay:OA) (ny:Nat) (qy:Nat) (U:List PU) (B:List Bool) (us:List PV) (Au:OA) (qu:Nat) (fs:List PB) (Ag:OA) (qg:Nat) (j:Nat),ρ=[u 0,u 1,u 4,u 5,u 10,(11,vs (some ⟨b105,0,none⟩) U hn.l.length),(12,vs (some ⟨b109,0,none⟩) B hn.l.length),u 111,u 112,(113,nv j)]∧Γ=[box cb (cF F [vs Ah hs qh,nv ci,vs Av vn qv,vs At tn qt,vs Az fl qz, .slice Ax nx qx, .slice Ay ny qy]) 131,g 8,g 12,g 13,g 14,g 15,Gz,g 5,box b10 [vs hn.A hn.l hn.q,vs Au us qu,vs Ag fs qg] 139,rows Uf 63 3 (some ⟨b105,0,none⟩) hn.l.length U,rows Vy 4 1 (some ⟨b109,0,none⟩) hn.l.length B,all (kUs U),rows zQ 143 1 Au qu us,rows zS 142 1 Ag qg fs,all (us.flatMap PV.kids),all (fs.flatMap kPB)]∧mz=c.vers.length-j∧(j≤c.vers.length)∧(us.length=j)∧(fs.length=j)∧(dP F c hn.l (fun s=>zJ s none (c.vers.take j)) U B)∧(nZ F c hn.l us fs)) ⟨⟨_,_,_,_,_,_,(List.replicate hn.l.length zPU),(List.replicate hn.l.length false),([]:List PV),none,0,([]:List PB),none,0,0,rfl,rfl,rfl,(aOk _),rfl,rfl,dP.init,(fun i v b h=>by simp at h)⟩,sb⟩ ?_)))));rintro mz _ _ ⟨Ax,nx,qx,Ay,ny,qy,U,B,us,Au,qu,fs,Ag,qg,j,rfl,rfl,rfl,hj,hus,hfs,hI,hUs⟩;have hUl:=hI.u;have hBl:=hI.b;refine Jz 6 ?_;refine aa rfl ?_ ?_<;>intro k114;obtain⟨v,hv⟩:=ai c.vers j om;have hvm:=sN hv;have hvg:=hcg.ver v hvm;have hvl:=hvg.1;refine Jz 8 ?_;refine ae fun b14=>?_;refine Jz 5 ?_;refine bv 6 rfl (ros Iu v.A v.l) rfl (Dh hc _ (Gw hv _ Qs)) (Jz 8 ?_);refine Bw (fun u g mz ρ Γ=>∃(Ax:OA) (nx:Nat) (qx:Nat) (Ay:OA) (ny:Nat) (qy:Nat) (U:List PU) (B:List Bool) (m:Nat),ρ=[u 0,u 1,u 4,u 5,u 10,(11,vs (some ⟨b105,0,none⟩) U hn.l.length),(12,vs (some ⟨b109,0,none⟩) B hn.l.length),u 111,u 112,u 118,u 119,(120,nv m),u 113]∧Γ=[box cb (cF F [vs Ah hs qh,nv ci,vs Av vn qv,vs At tn qt,vs Az fl qz, .slice Ax nx qx, .slice Ay ny qy]) 131,g 3,g 4,g 5,g 6,g 7,Gz,g 9,g 10,rows Uf 63 3 (some ⟨b105,0,none⟩) hn.l.length U,rows Vy 4 1 (some ⟨b109,0,none⟩) hn.l.length B,all (kUs U),g 14,g 15,g 16,g 17,g 0]∧mz=v.l.length-m∧(m≤v.l.length)∧(dP F c hn.l (fun s=>OT s (zJ s none (c.vers.take j)) (v.l.take m)) U B)) ⟨⟨Ax,nx,qx,Ay,ny,qy,U,B,0,rfl,rfl,rfl,(aOk _),hI⟩,sb⟩ ?_;rintro mz _ _ ⟨Ax,nx,qx,Ay,ny,qy,U,B,m,rfl,rfl,rfl,hm,hI3⟩;have hUl:=hI3.u;have hBl:=hI3.b;refine Jz 6 ?_;refine aa rfl ?_ ?_<;>intro k121;obtain⟨y,hy⟩:=ai v.l m om;have hym:=sN hy;obtain⟨hy1,hy2⟩:=hW.each v hvm m y hy;have hyg:=hvg.2 y hym;obtain⟨hd1,hd2,hd3⟩:=hT.hd j v hv m y hy;have hG:=aCh hF hc hCp hvm hym;have hnn:hn.l.length=nn:=by rw[hnl,Dq]
 obtain⟨u0,b0,hu0,hb0,-⟩:=hI3.at_ m y.name (by rw[hnl,hy1];exact Dw hy2);refine Jz 8 ?_;refine ae fun b16=>?_;refine Jz 4 ?_;refine bv 5 rfl (ros Da hn.A hn.l) rfl (zY hhn) (Jz 5 ?_);refine Jvf (Kv hn.A hn.q hn.l y.name (some m) om (by rw[hnl,hy1,Ti de (by have:=hW.n3;omega) hy2 0,aOz])) rfl (jS (lS 0 rfl) (jP _)) ?_;refine Jz 3 ?_;refine Bv 7 rfl (y.kids eX) (Hd.lax eX y) (fun z hz=>Dh hc _ (Gw hv _ (Px hy _ hz))) (Qb 9 rfl rfl (Jz 7 ?_));refine af [4,4,1,0] (VY F c (⟨Ah,qh,hs,ci,Av,qv,vn,At,qt,tn,Az,qz,fl,none,0,[]⟩:Cp) hCl cb y hyg.ps hd3 hG Ax Ay nx qx ny qy) ?_;rintro _ _ ⟨Ak,qk,rfl,rfl⟩;refine Jz 1 ?_;refine To.u (Cf (i:=12) (us:=Uf (zX F c y Ak qk)) rfl rfl rfl r63 (dN.len _) rfl rfl (Ha dN de om)) ?_;refine Jz 1 ?_;refine To.u (cu (i:=13) rfl rfl rfl c4 rfl rfl (Ha nV (y:=true) de om)) ?_;refine Jz 3 ?_;refine GV (Ig (Dp (Cw (Bv 0 rfl (kUs (U.set m (zX F c y Ak qk))) (jL _) aCi (Jz 5 ?_)))));refine Ju [(0,pv cb),(1,nv ci),(4,pv b4),(5,pv b5),(10,pv b10),(11, .slice (some ⟨b105,0,none⟩) (U.set m (zX F c y Ak qk)).length hn.l.length),(12, .slice (some ⟨b109,0,none⟩) (B.set m true).length hn.l.length),(111,vs c.An c.vers c.qn),(112,nv c.vers.length),(118,vs v.A v.l v.q),(119,nv v.l.length),(120,nv ((m+1))),(113,nv j)] ⟨rfl,rfl,rfl,rfl,rfl,(aOa (fun n=>some (Value.slice (some ⟨b105,0,none⟩) n hn.l.length)) aNw.symm),(aOa (fun n=>some (Value.slice (some ⟨b109,0,none⟩) n hn.l.length)) aNw.symm),rfl,rfl,rfl,rfl,rfl,rfl,trivial⟩ (Gl (Df (Ci (Qu (Qu (Qu (Qu (Qu (Qu (Qu (Qu (Qu (Qu (Qu (Jag (v.l.length-(m+1)) om ⟨y.Ap,y.ps.length,y.qp,Ak,((Nh F c y).length),qk,(U.set m (zX F c y Ak qk)),(B.set m true),m+1,rfl,rfl,rfl,om,(hI3.step hnl hW.n3 hy1 hy2 (fun s=>OZ s _ hy))⟩)))))))))))))));refine Jz 5 ?_;have hI2:dP F c hn.l (fun s=>zJ s none (c.vers.take (j+1))) U B:=hI3.congr (fun s=>by rw[PD s none hv,show v.l.take m=v.l from aOq om]);refine Iw (tel [(3,(ClR Uf 63 3 U)),(9,(ClR Vy 4 1 B))]) mixed.h (Fz 7 5 rfl kr ?_ ?_);refine Po [] [⟨0,[],0⟩,⟨2,[],0⟩,⟨6,[],0⟩,⟨8,[],0⟩,⟨3,[],4⟩,⟨1,[],1⟩,⟨4,[3],2⟩,⟨5,[3,4],5⟩,⟨9,[],4⟩,⟨7,[],1⟩,⟨12,[],0⟩,⟨10,[9],2⟩,⟨11,[9,10],5⟩,⟨13,[],5⟩,⟨14,[],0⟩,⟨15,[],5⟩] kr rfl (jP _) (Jz 4 ?_);refine Fw.tf (rW (some ⟨b105,0,none⟩) hn.l.length U om) (jS (Oq 9 rfl) (jP _)) (fun _ _ h=>by obtain⟨_,_,_,rfl⟩:=h;rfl) ?_;rintro _ _ ⟨Bu,pu,rfl,rfl⟩;refine Jz 1 ?_;refine En [vs Bu U pu] fun b143=>?_;refine Fw.ge rfl rfl rfl rfl (Bz zR (i:=14) (j:=0) (el:=(⟨Bu,pu,U⟩:PV)) rfl aJj rfl rfl rfl rfl rfl om om) ?_;rintro _ _ ⟨A144,q144,rfl,rfl⟩;refine⟨jP _,?_⟩;refine Fw.tf (rX (some ⟨b109,0,none⟩) hn.l.length B om) (jS (Oq 12 rfl) (jP _)) (fun _ _ h=>by obtain⟨_,_,_,rfl⟩:=h;rfl) ?_;rintro _ _ ⟨Bb,pb,rfl,rfl⟩;refine Jz 2 ?_;refine En [vs Bb B pb] fun b149=>?_;refine Fw.ge rfl rfl rfl rfl (Bz zT (i:=17) (j:=0) (el:=(⟨Bb,pb,B⟩:PB)) rfl aJl rfl rfl rfl rfl rfl om om) ?_;rintro _ _ ⟨A150,q150,rfl,rfl⟩;refine⟨jP _,?_⟩;refine dh rfl rfl rfl (cu (i:=12) rfl rfl rfl aJi rfl rfl (bt1 rfl)) (jP _) ?_;refine Jz 1 ?_;refine dh rfl rfl rfl (cu (i:=12) rfl rfl rfl aJk rfl rfl (bt1 rfl)) (jP _) ?_;refine Jz 3 ?_;refine Bv 15 rfl (kUs U) (jL _) (fun z hz=>hz) (wJ (Kj (Mw (Dp (Cw (Rv (f:=PV.kids) us (⟨Bu,pu,U⟩:PV) (GX (Fj (Dp (bV (Rv (f:=kPB) fs (⟨Bb,pb,B⟩:PB) (Jz 5 ?_))))))))))));refine Bp ⟨⟨Ax,nx,qx,Ay,ny,qy,U,B,(us++[(⟨Bu,pu,U⟩:PV)]),A144,q144,(fs++[(⟨Bb,pb,B⟩:PB)]),A150,q150,j+1,rfl,rfl,rfl,om,(by rw[aj,hus];rfl),(by rw[aj,hfs];rfl),hI2,(nZ.push hUs hus hfs hI2)⟩,sb⟩;refine Po [] [⟨0,[],0⟩,⟨2,[],0⟩,⟨6,[],0⟩,⟨8,[],0⟩,⟨3,[],4⟩,⟨1,[],1⟩,⟨4,[3],2⟩,⟨7,[],1⟩,⟨5,[3,4],5⟩,⟨12,[],0⟩,⟨9,[],4⟩,⟨10,[9],2⟩,⟨11,[9,10],5⟩,⟨13,[],5⟩,⟨14,[],0⟩,⟨15,[],5⟩] kr rfl (jP _) (Jz 4 ?_);refine Fw.tf (rW (some ⟨b105,0,none⟩) hn.l.length U om) (jS (Oq 9 rfl) (jP _)) (fun _ _ h=>by obtain⟨_,_,_,rfl⟩:=h;rfl) ?_;rintro _ _ ⟨Bu,pu,rfl,rfl⟩;refine Jz 1 ?_;refine En [vs Bu U pu] fun b143=>?_;refine Jz 1 ?_;refine Fw.ge rfl rfl rfl rfl (Bz zR (i:=14) (j:=0) (el:=(⟨Bu,pu,U⟩:PV)) rfl aJj rfl rfl rfl rfl rfl om om) ?_;rintro _ _ ⟨A144,q144,rfl,rfl⟩;refine⟨jP _,?_⟩;refine Jz 1 ?_;refine Fw.tf (rX (some ⟨b109,0,none⟩) hn.l.length B om) (jS (Oq 12 rfl) (jP _)) (fun _ _ h=>by obtain⟨_,_,_,rfl⟩:=h;rfl) ?_;rintro _ _ ⟨Bb,pb,rfl,rfl⟩;refine En [vs Bb B pb] fun b149=>?_;refine Fw.ge rfl rfl rfl rfl (Bz zT (i:=17) (j:=0) (el:=(⟨Bb,pb,B⟩:PB)) rfl aJl rfl rfl rfl rfl rfl om om) ?_;rintro _ _ ⟨A150,q150,rfl,rfl⟩;refine⟨jP _,?_⟩;refine dh rfl rfl rfl (cu (i:=12) rfl rfl rfl aJi rfl rfl (bt1 rfl)) (jP _) ?_;refine Jz 1 ?_;refine dh rfl rfl rfl (cu (i:=12) rfl rfl rfl aJk rfl rfl (bt1 rfl)) (jP _) ?_;refine Jz 3 ?_;refine Bv 15 rfl (kUs U) (jL _) (fun z hz=>hz) (wJ (Kj (Mw (Dp (Cw (Rv (f:=PV.kids) us (⟨Bu,pu,U⟩:PV) (GX (Fj (Dp (bV (Rv (f:=kPB) fs (⟨Bb,pb,B⟩:PB) (Jz 5 ?_))))))))))));refine Bp ⟨⟨Ax,nx,qx,Ay,ny,qy,U,B,(us++[(⟨Bu,pu,U⟩:PV)]),A144,q144,(fs++[(⟨Bb,pb,B⟩:PB)]),A150,q150,j+1,rfl,rfl,rfl,om,(by rw[aj,hus];rfl),(by rw[aj,hfs];rfl),hI2,(nZ.push hUs hus hfs hI2)⟩,sb⟩;refine Jz 12 ?_;refine pV (pV (Ko (GV (Dp (Cw (QN (Dp (Cw (bv 5 rfl (ros Da hn.A hn.l) rfl (zY hhn) (Kj (Kj (Cw (Ec [1,0] results50 ?_)))))))))))));exact⟨(⟨hn.A,hn.q,hn.l,Au,qu,us,Ag,qg,fs⟩:PP),(⟨ci,Av,vn.length,qv,At,tn.length,qt,Az,fl.length,qz,Ax,nx,qx,Ay,ny,qy⟩:Stl),rfl,rfl,⟨hnl.trans hW.hn.symm,by show us.length=_;omega,by show fs.length=_;omega,hUs⟩⟩
def kHN(h:HN):List Ad:=[ros Da h.A h.l]
def AA(F:Fl)(ps:List PP):Prop:=∀(k:Nat) (c:Cm) (p:PP),F.comps[k]?=some c→ps[k]?=some p→aHh F c p
theorem AA.push{F:Fl}{ps:List PP}{c:Cm}{p:PP}{k:Nat}(h:AA F ps)(hl:ps.length=k)(hc:F.comps[k]?=some c)(hp:aHh F c p):AA F (ps++[p]):=fun i c' p' h1 h2=>by
 by_cases e:i<k
 · rw[aOu om]at h2
   exact h i c' p' h1 h2
 · have h3:=(aNr.1 h2).1
   rw[aj]at h3;have h3:i<ps.length+1:=h3;obtain rfl:i=k:=om;rw[aPj om,hl,aQf]at h2;rw[hc]at h1;obtain rfl:=aOj h1;obtain rfl:p=p':=by simpa using h2
   exact hp
structure FR(F:Fl)(ps:List PP):Prop where
 len:ps.length=F.comps.length
 inv:AA F ps
def pgk(b:Nat)(A:OA)(q:Nat)(ps:List PP):List Ad:=ro (some ⟨b,0,none⟩) [vs A ps q]::ros dO A ps::ps.flatMap PP.kids
theorem PP.lax(p:PP):Lax p.kids:=eu rfl (eu rfl (eu rfl (Lax.app (Gp fun v _=>v.lax) (Gp fun _ _=>jK))))
theorem Vn(b:Nat)(A:OA)(q:Nat)(ps:List PP):Lax (pgk b A q ps):=eu rfl (eu rfl (Gp fun p _=>p.lax))
section
variable{b:Nat}{A:OA}{q:Nat}{ps:List PP}{p:PP}{k:Nat}{v:PV}{f:PB}{n:Nat}
end
theorem aHi{F:Fl}{hs:List HN}(h:hs.map HN.l=F.comps.map fun c=>av (c.vers.map Vs.pure)){ci:Nat}{c:Cm}(hc:F.comps[ci]?=some c):∃hn,hs[ci]?=some hn∧hn.l=av (c.vers.map Vs.pure):=by
 have h1:(hs.map HN.l)[ci]?=some (av (c.vers.map Vs.pure)):=by rw[h,aOf,hc];rfl
 rw[aOf]at h1;exact aOr.1 h1
theorem aEd{F:Fl}(hF:Nn F.pure){hs:List HN}(h:hs.map HN.l=F.comps.map fun c=>av (c.vers.map Vs.pure)):∀x∈hs,x.l.length≤12:=fun x hx=>by
 have h1:x.l∈hs.map HN.l:=aOm.2 ⟨x,hx,rfl⟩;rw[h]at h1;obtain⟨c,hc,e⟩:=aOm.1 h1;obtain⟨i,hi⟩:=aPr hc;obtain⟨nn,hW⟩:=cmW hF hi;rw[←e,hW.hn,Dq];have:=hW.n3;omega
theorem FT(F:Fl)(hF:Nn F.pure)(hX:Mq F)(hCap:F.Cap):
    Dz 20 [.agg (cF F []).toArray] [all (F.kids eX),ay,ax,Gz] (fun v Γ'=>∃(b:Nat) (A:OA) (q:Nat) (ps:List PP),v= .tuple #[pv b,iv 0]∧Γ'=[all (pgk b A q ps)]∧FR F ps):=by
 have hFc:=hX.comps;refine Ba func20 ntmps20 fun w0=>?_;refine Js (cz (Jbo fun b1=>?_));refine Jz 8 ?_;refine Jqf (fJ F hX) (by show owns (F.kids eX)++(owns gl++[])=[];rw[(Fl.lax eX F).owns];rfl) (jS (lS 1 rfl) (jS (lS 2 rfl) (jP _))) ?_;rintro _ _ ⟨rfl,rfl⟩;refine⟨rfl,?_⟩;refine Jz 16 ?_;refine Jqf (OC F hX hCap (tyF hF)) (by show owns (F.kids eX)++(owns gl++(ax.owns++[]))=[];rw[(Fl.lax eX F).owns];rfl) (jS (lS 1 rfl) (jS (lS 2 rfl) (jS (lS 3 rfl) (jP _)))) ?_;rintro _ _ ⟨rfl,rfl⟩;refine⟨rfl,?_⟩;refine Jz 3 ?_;refine ae fun b5=>?_;refine Jz 16 ?_;refine Jr (.bd (cF F [nz,iv 0,nz,nz,nz,nz,nz])) ?_;refine Jbo fun b27=>?_;refine Jz 5 ?_;refine bv 3 rfl (ros Gu F.Ac F.comps) rfl (Gj (k:=eX)) (Jz 8 ?_);refine Eb (enc:=Vx) (e:=54) (size:=1) (Hz (Bw (fun s g mz ρ Γ=>∃(Ah:OA) (qh:Nat) (hs:List HN) (j:Nat),ρ=[s 1,s 3,s 7,s 29,s 30,(31,nv j)]∧Γ=[box b27 (cF F [vs Ah hs qh,iv 0,nz,nz,nz,nz,nz]) 131,g 5,g 6,Gz,g 2,rows Vx 54 1 Ah qh hs,all (hs.flatMap kHN)]∧mz=F.comps.length-j∧(j≤F.comps.length)∧(hs.map HN.l=(F.comps.take j).map fun c=>av (c.vers.map Vs.pure))) ⟨⟨none,0,([]:List HN),0,rfl,rfl,rfl,(aOk _),rfl⟩,sb⟩ ?_));rintro mz _ _ ⟨Ah,qh,hs,j,rfl,rfl,rfl,hj,hhs⟩;have hhl:=aOa List.length hhs;rw[aNv,aNv,aOh]at hhl;refine Jz 6 ?_;refine aa rfl ?_ ?_<;>intro k32;obtain⟨x,hx⟩:=ai F.comps j om;have hxg:=hX.comp x (sN hx);refine Jz 8 ?_;refine ae fun b9=>?_;refine Jz 3 ?_;refine Bv 3 rfl (x.kids eX) (Cm.lax eX x) (Dh hx) (Oy [] [⟨0,[],0⟩,⟨1,[],0⟩,⟨2,[],0⟩,⟨3,[],0⟩,⟨5,[],1⟩,⟨6,[],4⟩,⟨4,[],1⟩,⟨7,[6],2⟩,⟨8,[6,7],5⟩,⟨9,[],0⟩,⟨10,[],0⟩,⟨11,[],5⟩] mixed.h kr (jP _) (Jz 5 ?_));refine Dx rfl rfl rfl rfl rfl .fc (OY x hxg.vers2 (fun v hv=>(hxg.ver v hv).1)) (by show owns (x.kids eX)++[]=[];rw[(Cm.lax eX x).owns];rfl) (jS (lS 0 rfl) (jP _)) ?_;rintro _ _ ⟨An,qn,rfl,rfl⟩;refine⟨rfl,?_⟩;refine Jz 1 ?_;refine En [vs An (av (x.vers.map Vs.pure)) qn] fun b42=>?_;refine Fw.ge rfl rfl rfl rfl (Bz VS (i:=9) (j:=0) (el:=(⟨An,qn,av (x.vers.map Vs.pure)⟩:HN)) rfl aMm rfl rfl rfl rfl rfl om om) ?_;rintro _ _ ⟨A43,q43,rfl,rfl⟩;refine⟨jP _,?_⟩;refine Jz 2 ?_;refine dh rfl rfl rfl (cu (i:=4) rfl rfl rfl aMl rfl rfl (bt1 rfl)) (jP _) ?_;refine Jz 3 ?_;refine kN (Ig (Dp (bV (Rv (f:=kHN) hs (⟨An,qn,av (x.vers.map Vs.pure)⟩:HN) (Jz 5 ?_)))));refine Bp ⟨⟨A43,q43,(hs++[(⟨An,qn,av (x.vers.map Vs.pure)⟩:HN)]),j+1,rfl,rfl,rfl,om,(by rw[aOb,Cj hx,aOb,hhs];rfl)⟩,sb⟩;refine Jz 7 ?_;refine Jr (.bd [nz]) ?_;refine Jbo fun b48=>?_;refine Jz 13 ?_;have hhE:hs.map HN.l=F.comps.map fun c=>av (c.vers.map Vs.pure):=by rw[hhs,aOq om]
 refine Zb (kM (Zb (Dp (Kj (Ig (Kj (Cw (Kj (Cw ?_)))))))));rw[show(ros Vx Ah hs::ros Gu F.Ac F.comps::hs.flatMap kHN)=iD F Ah hs from by unfold iD;rw[dL];rfl];refine Eb (enc:=dO) (e:=139) (size:=3) (Hz (Bw (fun s g mz ρ Γ=>∃(z:Stl) (Ap:OA) (qp:Nat) (ps:List PP) (k:Nat),ρ=[s 1,s 3,s 7,s 10,s 51,(52,nv k)]∧Γ=[box b27 (cF F [vs Ah hs qh,nv z.own, .slice z.A1 z.n1 z.q1, .slice z.A2 z.n2 z.q2, .slice z.A3 z.n3 z.q3, .slice z.A4 z.n4 z.q4, .slice z.A5 z.n5 z.q5]) 131,g 5,g 6,Gz,g 2,box b48 [vs Ap ps qp] 135,rows dO 139 3 Ap qp ps,all (ps.flatMap PP.kids)]∧mz=F.comps.length-k∧(k≤F.comps.length)∧(ps.length=k)∧(AA F ps)) ⟨⟨(⟨0,none,0,0,none,0,0,none,0,0,none,0,0,none,0,0⟩:Stl),none,0,([]:List PP),0,rfl,rfl,rfl,(aOk _),rfl,(fun k c p h1 h2=>by simp at h2)⟩,sb⟩ ?_));rintro mz _ _ ⟨z,Ap,qp,ps,k,rfl,rfl,rfl,hk,hpl,hps⟩;refine Jz 6 ?_;refine aa rfl ?_ ?_<;>intro k53;obtain⟨c,hc⟩:=ai F.comps k om;have hcg:=hX.comp c (sN hc);obtain⟨nn,hW⟩:=cmW hF hc;obtain⟨hn,hhn,hnl⟩:=aHi hhE hc;refine Jz 10 ?_;refine Qb 3 rfl rfl (Bv 3 rfl (F.kids eX) (Fl.lax eX F) (fun z hz=>hz) (Bv 6 rfl (iD F Ah hs) (rY F Ah hs) (fun z hz=>hz) (Iw (tel []) mixed.h (Fz 4 7 rfl kr ?_ ?_))));refine Je [] [0,1,2,3,5,6,507,104,208,9509,10,11,512] (jP _) ?_;refine Jz 6 ?_;refine Dl [3,0,0,0] (zZ F hF hX k c hc hcg ((tyF hF).comp k c hc) nn hW Ah qh hs hn hhn (hnl.trans hW.hn) hhE (aEd hF hhE) b27 z) ?_;rintro _ _ ⟨p2,z2,rfl,rfl,hp2⟩;refine⟨jP _,?_⟩;refine Jz 1 ?_;refine En [vs p2.An p2.names p2.qn,vs p2.Au p2.us p2.qu,vs p2.Af p2.fs p2.qf] fun b63=>?_;refine Fw.ge rfl rfl rfl rfl (Bz zU (i:=8) (j:=0) (el:=p2) rfl aJh rfl rfl rfl rfl rfl om om) ?_;rintro _ _ ⟨A64,q64,rfl,rfl⟩;refine⟨jP _,?_⟩;refine Jz 2 ?_;refine dh rfl rfl rfl (cu (i:=7) rfl rfl rfl SN rfl rfl (bta rfl)) (jP _) ?_;refine Jz 3 ?_;refine aEr (Fj (Rv (f:=PP.kids) ps p2 (Jz 5 ?_)));refine Bp ⟨⟨z2,A64,q64,(ps++[p2]),k+1,rfl,rfl,rfl,om,(by rw[aj,hpl];rfl),(hps.push hpl hc hp2)⟩,sb⟩;refine Je [] [0,1,2,3,5,6,104,507,208,9509,10,11,512] (jP _) ?_;refine Jz 7 ?_;refine Dl [3,0,0,0] (zZ F hF hX k c hc hcg ((tyF hF).comp k c hc) nn hW Ah qh hs hn hhn (hnl.trans hW.hn) hhE (aEd hF hhE) b27 z) ?_;rintro _ _ ⟨p2,z2,rfl,rfl,hp2⟩;refine⟨jP _,?_⟩;refine En [vs p2.An p2.names p2.qn,vs p2.Au p2.us p2.qu,vs p2.Af p2.fs p2.qf] fun b63=>?_;refine Fw.ge rfl rfl rfl rfl (Bz zU (i:=8) (j:=0) (el:=p2) rfl aJh rfl rfl rfl rfl rfl om om) ?_;rintro _ _ ⟨A64,q64,rfl,rfl⟩;refine⟨jP _,?_⟩;refine Jz 2 ?_;refine dh rfl rfl rfl (cu (i:=7) rfl rfl rfl SN rfl rfl (bta rfl)) (jP _) ?_;refine Jz 3 ?_;refine aEr (Fj (Rv (f:=PP.kids) ps p2 (Jz 5 ?_)));refine Bp ⟨⟨z2,A64,q64,(ps++[p2]),k+1,rfl,rfl,rfl,om,(by rw[aj,hpl];rfl),(hps.push hpl hc hp2)⟩,sb⟩;refine Jz 13 ?_;refine Zb (Zb (Dp (Cw (kM (Sm (Cw (Gl (Df (Cr (Cb (Ci (Ei (.inl rfl) results20 rfl rfl ?_))))))))))));exact⟨b48,Ap,qp,ps,rfl,rfl,⟨by omega,hps⟩⟩
theorem PG{P:pG}{f:FuncId}{args:List vU}{Γ:List Ad}{v:vU}{α:Type}{enc:α→List vU}{e:tI}{size:Nat}(h:Bd P f args Γ (fun r Γ'=>r=v∧Γ'=[])):Bd P f args Γ (fun r Γ'=>r=v∧Γ'=[rows enc e size none 0 ([]:List α)]):=fun w hs=>(h w hs).mono fun x w' ⟨r,Γ',h1,⟨h2,h3⟩,h4⟩=>by
 subst h3;have hk:Db [] [rows enc e size none 0 ([]:List α)] w' w':=(show To ⟨0,[],w',[]⟩ [] [] (fun _ w2=>w2=w'→Db [] [rows enc e size none 0 ([]:List α)] w' w')from Eb (enc:=enc) (e:=e) (size:=size) (fun _ w2 _ hp e2=>by subst e2;exact hp)) _ w' (Yd [] 0 rfl) (Db.refl h4.sat) rfl;exact⟨r,_,h1,⟨h2,rfl⟩,h4.trans hk⟩
section
variable{F:Fl}{ps:List PP}{k:Nat}{c:Cm}{h:Nat}{s:yB}
end
end Go.Proofs.YtihgdnjkofpgiaaGreatDoor

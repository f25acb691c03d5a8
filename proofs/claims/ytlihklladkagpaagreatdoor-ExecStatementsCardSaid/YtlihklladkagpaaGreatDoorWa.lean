/- Own text. -/
import Derived.Test.YtlihklladkagpaaGreatDoorVd
import Derived.Test.YtlihklladkagpaaGreatDoorRb
set_option linter.unusedVariables false
set_option linter.unusedSimpArgs false
set_option maxHeartbeats 2000000
set_option maxRecDepth 100000
namespace Go.Proofs.YtlihklladkagpaaGreatDoor
open Go.Proofs.Tryz
open Go.RowKit Go.Flow Go.Mem Go.Sep Go.In
structure HN where
 A:OA
 q:Nat
 l:List ByteArray
def Va(e:HN):List Value:=[vs e.A e.l e.q]
instance NJ:Enc Va 1:=⟨fun _=>rfl,fun e u hu=>by
 simp only[Va,aEi,aEs,or_false]at hu
 subst hu;rfl⟩
structure Cp where
 Ah:OA
 qh:Nat
 hs:List HN
 own:Nat
 Av:OA
 qv:Nat
 vn:List ByteArray
 At:OA
 qt:Nat
 tn:List ByteArray
 Af:OA
 qf:Nat
 fn:List ByteArray
 Ap:OA
 qp:Nat
 ps:List ByteArray
abbrev jP(C:Cp)(r:List Value):List Value:=vs C.Ah C.hs C.qh::nv C.own::vs C.Av C.vn C.qv::vs C.At C.tn C.qt::vs C.Af C.fn C.qf::vs C.Ap C.ps C.qp::r
def uX(C:Cp)(i:Nat):List ByteArray:=((C.hs.map HN.l)[i]?).getD []
def Cp.cc(F:Fl)(C:Cp):Cc where
 pn s:=match ixF s 0 C.ps with|some k=>⟨3,(k:Int),0,0⟩|none=>match ixF s 0 C.vn with|some k=>⟨2,(k:Int),0,0⟩|none=>⟨4,oI (ixF s 0 C.fn),0,0⟩
 vs s:=oI (ixF s 0 C.vn)
 ts s:=oI (ixF s 0 C.tn)
 tg c h:=(oI (ixF c 0 (F.comps.map Cm.name)),oI (ixF h 0 (uX C (oI (ixF c 0 (F.comps.map Cm.name))).toNat)))
 ah h:=oI (ixF h 0 (uX C C.own))
def Cp.kids(F:Fl)(C:Cp):List Ai:=ros aMb C.Ap C.ps::ros aMb C.Av C.vn::ros aMb C.At C.tn::ros aMb C.Af C.fn::ros Va C.Ah C.hs::ros Jl F.Ac F.comps::C.hs.map (fun h=>ros aMb h.A h.l)
theorem fM{α:Type}{f:α→List Value}{A:OA}{l:List α}:Lax [ros f A l]:=Lax.cons rfl Lax.nil
theorem aP{α β:Type}(f:α→β):∀l:List α,l.map f=l.flatMap fun x=>[f x]
 |[]=>rfl
 |x::r=>by rw[aFn,aFf,aP f r];rfl
theorem Cp.lax(F:Fl)(C:Cp):Lax (C.kids F):=Lax.cons rfl (Lax.cons rfl (Lax.cons rfl (Lax.cons rfl (Lax.cons rfl (Lax.cons rfl (by rw[aP];exact Hm fun h _=>fM))))))
structure Cp.Low(F:Fl)(C:Cp):Prop where
 p:C.ps.length≤12
 v:C.vn.length≤12
 t:C.tn.length≤12
 f:C.fn.length≤12
 c:F.comps.length≤12
 h:C.hs.length=F.comps.length
 o:C.own<C.hs.length
 each:∀h∈C.hs,h.l.length≤12
section
variable{F:Fl}{C:Cp}
theorem TI:ros aMb C.Ap C.ps∈C.kids F:=aEd ..
theorem qZ:ros aMb C.Av C.vn∈C.kids F:=aEb _ (aEd ..)
theorem aQ:ros aMb C.At C.tn∈C.kids F:=aEb _ (aEb _ (aEd ..))
theorem TJ:ros aMb C.Af C.fn∈C.kids F:=aEb _ (aEb _ (aEb _ (aEd ..)))
theorem BZ:ros Va C.Ah C.hs∈C.kids F:=aEb _ (aEb _ (aEb _ (aEb _ (aEd ..))))
theorem TK:ros Jl F.Ac F.comps∈C.kids F:=aEb _ (aEb _ (aEb _ (aEb _ (aEb _ (aEd ..)))))
theorem CB{i:Nat}{h:HN}(hh:C.hs[i]?=some h):ros aMb h.A h.l∈C.kids F:=aEb _ (aEb _ (aEb _ (aEb _ (aEb _ (aEb _ (aEv.2 ⟨h,mog hh,rfl⟩))))))
theorem CE{i:Nat}{h:HN}(hh:C.hs[i]?=some h):uX C i=h.l:=by unfold uX;rw[aEp,hh];rfl
end
theorem VS{α:Type}{f:α→ByteArray}{s:ByteArray}:∀{l:List α} {k:Nat} {c:α},l.find? (fun y:α=>decide (f y=s))=some c→∃j,ixF s k (l.map f)=some (k+j)∧l[j]?=some c
 |[],_,_,h=>by cases h
 | x ::r,k,c,h=>by
   by_cases hx:f x=s
   · rw[List.find?_cons_of_pos (by simpa using hx)]at h
     exact⟨0,by rw[aFn,ixF,aEh hx];rfl,h⟩
   · rw[List.find?_cons_of_neg (by simpa using hx)]at h
     obtain⟨j,h1,h2⟩:=VS (k:=k+1) h
     exact⟨j+1,by rw[aFn,ixF,aEa hx,h1];congr 1;omega,h2⟩
structure PU where
 np:Nat
 st:Int
 A:OA
 q:Nat
 l:List Ins
def zPU:PU:=⟨0,0,none,0,[]⟩
def Sc(u:PU):List Value:=[nv u.np,iv u.st,vs u.A u.l u.q]
instance aR:Enc Sc 3:=⟨fun _=>rfl,fun e u hu=>by
 simp only[Sc,aEi,aEs,or_false]at hu
 rcases hu with rfl|rfl|rfl<;>rfl⟩
structure PV where
 A:OA
 q:Nat
 l:List PU
def kN(e:PV):List Value:=[vs e.A e.l e.q]
instance uY:Enc kN 1:=⟨fun _=>rfl,fun e u hu=>by
 simp only[kN,aEi,aEs,or_false]at hu
 subst hu;rfl⟩
structure PB where
 A:OA
 q:Nat
 l:List Bool
def dX(e:PB):List Value:=[vs e.A e.l e.q]
instance uZ:Enc dX 1:=⟨fun _=>rfl,fun e u hu=>by
 simp only[dX,aEi,aEs,or_false]at hu
 subst hu;rfl⟩
def Sd(b:Bool):List Value:=[.bool b]
instance kP:Enc Sd 1:=⟨fun _=>rfl,fun e u hu=>by
 simp only[Sd,aEi,aEs,or_false]at hu
 subst hu;rfl⟩
structure PP where
 An:OA
 qn:Nat
 names:List ByteArray
 Au:OA
 qu:Nat
 us:List PV
 Af:OA
 qf:Nat
 fs:List PB
def Xx(e:PP):List Value:=[vs e.An e.names e.qn,vs e.Au e.us e.qu,vs e.Af e.fs e.qf]
instance vB:Enc Xx 3:=⟨fun _=>rfl,fun e u hu=>by
 simp only[Xx,aEi,aEs,or_false]at hu
 rcases hu with rfl|rfl|rfl<;>rfl⟩
def kUs(l:List PU):List Ai:=l.flatMap fun u=>[ros Ins.cells u.A u.l]
def PV.kids(v:PV):List Ai:=ros Sc v.A v.l::kUs v.l
def PP.kids(c:PP):List Ai:=ros aMb c.An c.names::ros kN c.Au c.us::ros dX c.Af c.fs::(c.us.flatMap PV.kids++c.fs.flatMap fun b=>[ros Sd b.A b.l])
theorem fO(l:List PU):Lax (kUs l):=Hm fun _ _=>fM
theorem PV.lax(v:PV):Lax v.kids:=Lax.cons rfl (fO _)
theorem NK(F:Fl)(C:Cp)(hC:C.Low F)(cb:Nat)(A:OA)(q:Nat)(l:List Ins)(op:Nat)(x y n:Int)(hl:(l++[(⟨op,x,y,n⟩:Ins)]).length≤1000000):
    Dz 202 [pv cb, .agg #[.int .u8 ((op:Nat):Int),iv x,iv y,iv n]] [box cb (cF F [vs C.Ah C.hs C.qh,nv C.own,vs C.Av C.vn C.qv,vs C.At C.tn C.qt,vs C.Af C.fn C.qf,vs C.Ap C.ps C.qp,vs A l q]) 171,rows Ins.cells 116 4 A q l] (fun v Γ'=>∃(A':OA) (q':Nat),v=nv l.length∧Γ'=[box cb (cF F [vs C.Ah C.hs C.qh,nv C.own,vs C.Av C.vn C.qv,vs C.At C.tn C.qt,vs C.Af C.fn C.qf,vs C.Ap C.ps C.qp,vs A' (l++[(⟨op,x,y,n⟩:Ins)]) q']) 171,rows Ins.cells 116 4 A' q' (l++[(⟨op,x,y,n⟩:Ins)])]):=by
 rw[lap]at hl
 have hl2:l.length+1≤1000000:=hl
 have hl3:(l++[(⟨op,x,y,n⟩:Ins)]).length=l.length+1:=by rw[lap];rfl
 refine Am func202 ntmps202 fun w0=>?_
 refine Js (To.g (Jbo fun b3=>?_))
 refine Jz 4 ?_
 refine Jfw [] [0,1,2,3,104,105,206,7507,8,9,510] (ocn _) ?_
 refine Jz 6 ?_
 refine Es [.int .u8 ((op:Nat):Int),iv x,iv y,iv n] fun b11=>?_
 refine Fw.ge rfl rfl rfl rfl (Bg Zp (i:=3) (j:=0) (el:=(⟨op,x,y,n⟩:Ins)) rfl s41 rfl rfl rfl rfl rfl om om) ?_
 rintro _ _ ⟨A12,q12,rfl,rfl⟩
 refine⟨ocn _,?_⟩
 refine Jz 2 ?_
 refine Fw.up rfl rfl rfl (Up.store (i:=2) rfl rfl rfl c41 rfl rfl (bt1 rfl)) (ocn _) ?_
 refine Jz 9 ?_
 refine Jr (Gi rfl rfl rfl om) ?_
 refine Jz 4 ?_
 refine Df (Du (Je1 results202 ?_))
 exact⟨_,_,by rw[hl3];congr 1;omega,rfl⟩
theorem Ho(F:Fl)(C:Cp)(hC:C.Low F)(cb:Nat)(A:OA)(q:Nat)(l:List Ins)(x:Ins)(hl:(l++[x]).length≤1000000):Dz 202 [pv cb, .agg (Ins.cells x).toArray] [box cb (cF F [vs C.Ah C.hs C.qh,nv C.own,vs C.Av C.vn C.qv,vs C.At C.tn C.qt,vs C.Af C.fn C.qf,vs C.Ap C.ps C.qp,vs A l q]) 171,rows Ins.cells 116 4 A q l] (fun v Γ'=>∃(A':OA) (q':Nat),v=nv l.length∧Γ'=[box cb (cF F [vs C.Ah C.hs C.qh,nv C.own,vs C.Av C.vn C.qv,vs C.At C.tn C.qt,vs C.Af C.fn C.qf,vs C.Ap C.ps C.qp,vs A' (l++[x]) q']) 171,rows Ins.cells 116 4 A' q' (l++[x])]):=NK F C hC cb A q l x.op x.a x.b x.n hl
theorem TL(b:Nat)(s:St)(x:Cm):
    Dz 206 [.agg (Jl x).toArray,pv b] [ro (some ⟨b,0,none⟩) (Dh s)] (fun v _=>v= .bool (decide (x.name=s.name))):=by
 refine Am func206 ntmps206 fun w0=>?_
 refine Js (To.g (Jbo fun b2=>?_))
 refine Jz 8 ?_
 refine Jr (Ck (i:=1) rfl rfl c9 rfl (Iq (A:=some ⟨b,0,none⟩) (o:=1) (k:=1) rfl)) ?_
 refine Jr (Nt rfl rfl rfl) ?_
 refine Jz 4 ?_
 refine Je1 results206 ?_
 rfl
theorem GH(b:Nat)(s:St)(A:OA)(q:Nat)(l:List Cm)(o:Option Nat)(hl:l.length≤12)(ho:ixF s.name 0 (l.map Cm.name)=o):
    Dz 205 [vs A l q, .func (.func 206) #[] #[pv b]] [ros Jl A l,ro (some ⟨b,0,none⟩) (Dh s)] (fun v _=>v=iv (oI o)):=by
 refine Am func205 ntmps205 fun w0=>?_
 refine Jz 14 ?_
 refine Lf (fun u g mz ρ Γ=>∃(k:Nat),ρ=[u 0,u 1,u 6,u 7,(8,nv k)]∧Γ=[g 0,g 1]∧mz=l.length-k∧(k≤l.length)∧(ixF s.name k ((l.map Cm.name).drop k)=o)) ⟨⟨0,rfl,rfl,rfl,om,ho⟩,sb⟩ ?_
 rintro mz _ _ ⟨k,rfl,rfl,rfl,hk,ho⟩
 refine Jz 6 ?_
 refine Jcp rfl ?_ ?_<;>intro k9
 obtain⟨y,hy⟩:=exg l k om
 refine Jz 17 ?_
 refine JcV rfl rfl rfl (Ent.func (first:=[]) (captured:=[pv b]) rfl rfl rfl (kc.h 206 rfl)) (TL b s y) rfl (ocs (oca 1 rfl) (ocn _)) (Jn (Jt (Jcp rfl (fun k16=>?_) (fun k16=>?_))))
 refine Jz 12 ?_
 refine Je1 results205 ?_
 rw[show o=some k from by rw[←ho];exact yD (by rw[aEp,hy,←k16];rfl)];rfl
 refine Jz 8 ?_
 refine Hu ⟨⟨k+1,rfl,rfl,rfl,om,(by rw[←MH (x:=y.name) (by rw[aEp,hy];rfl) k16];exact ho)⟩,sb⟩
 refine Jz 11 ?_
 refine Je1 results205 ?_
 rw[show o=none from by rw[←ho];exact yE (by rw[aEg];omega)];rfl
theorem NL(F:Fl)(C:Cp)(hC:C.Low F)(cb:Nat)(A:OA)(q:Nat)(l:List Ins)(s:ByteArray)(hl:(l++[(C.cc F).pn s]).length≤1000000):
    Dz 226 [pv cb, .string s] [box cb (cF F [vs C.Ah C.hs C.qh,nv C.own,vs C.Av C.vn C.qv,vs C.At C.tn C.qt,vs C.Af C.fn C.qf,vs C.Ap C.ps C.qp,vs A l q]) 171,rows Ins.cells 116 4 A q l,all (C.kids F)] (fun v Γ'=>∃(A':OA) (q':Nat),Γ'=[box cb (cF F [vs C.Ah C.hs C.qh,nv C.own,vs C.Av C.vn C.qv,vs C.At C.tn C.qt,vs C.Af C.fn C.qf,vs C.Ap C.ps C.qp,vs A' (l++[(C.cc F).pn s]) q']) 171,rows Ins.cells 116 4 A' q' (l++[(C.cc F).pn s]),all (C.kids F)]):=by
 rw[lap]at hl
 have hl2:l.length+1≤1000000:=hl
 refine Am func226 ntmps226 fun w0=>?_
 refine Js (To.one 2 rfl (ros aMb C.Ap C.ps) rfl (TI) (Jz 6 ?_))
 refine Jvf (Kl C.Ap C.qp C.ps s _ hC.p rfl) rfl (ocs (oca 0 rfl) (ocn _)) ?_
 refine Jz 6 ?_
 refine Jr (Cr (v':= .bool (ixF s 0 C.ps).isSome) (congrArg Value.bool (BP _)) (Rd.geq rfl rfl rfl)) ?_
 refine Jn (Jt (Ed rfl (fun c13=>?_) (fun c13=>?_)))
 refine Jz 3 ?_
 refine Jr (.bd [.int .u8 3,iv (oI (ixF s 0 C.ps)),iv 0,iv 0]) ?_
 refine Jcf [1,1] (Ho F C hC cb A q l (⟨3,oI (ixF s 0 C.ps),0,0⟩:Ins) (by simp only[lap,lc1,ln0];omega)) ?_
 rintro _ _ ⟨An,qn,rfl,rfl⟩
 refine Jn (Cu (Co (.inr rfl) results226 ?_))
 obtain⟨k,hk⟩:=Option.isSome_iff_exists.1 c13
 have hp:(C.cc F).pn s=⟨3,oI (ixF s 0 C.ps),0,0⟩:=by show(match ixF s 0 C.ps with|some k=>_|none=>_)=_;rw[hk];rfl
 rw[hp];exact⟨_,_,rfl⟩
 refine Js (To.one 3 rfl (ros aMb C.Av C.vn) rfl (qZ) (Jz 6 ?_))
 refine Jvf (Kl C.Av C.qv C.vn s _ hC.v rfl) rfl (ocs (oca 0 rfl) (ocn _)) ?_
 refine Jz 6 ?_
 refine Jr (Cr (v':= .bool (ixF s 0 C.vn).isSome) (congrArg Value.bool (BP _)) (Rd.geq rfl rfl rfl)) ?_
 refine Jn (Jt (Ed rfl (fun c25=>?_) (fun c25=>?_)))
 refine Jz 3 ?_
 refine Jr (.bd [.int .u8 2,iv (oI (ixF s 0 C.vn)),iv 0,iv 0]) ?_
 refine Jcf [2,2] (Ho F C hC cb A q l (⟨2,oI (ixF s 0 C.vn),0,0⟩:Ins) (by simp only[lap,lc1,ln0];omega)) ?_
 rintro _ _ ⟨An_2,qn_2,rfl,rfl⟩
 refine Jn (Dl (Cu (Co (.inr rfl) results226 ?_)))
 have h13:ixF s 0 C.ps=none:=by simpa using c13
 obtain⟨k,hk⟩:=Option.isSome_iff_exists.1 c25
 have hp:(C.cc F).pn s=⟨2,oI (ixF s 0 C.vn),0,0⟩:=by show(match ixF s 0 C.ps with|some k=>_|none=>match ixF s 0 C.vn with|some k=>_|none=>_)=_;rw[h13,hk];rfl
 rw[hp];exact⟨_,_,rfl⟩
 refine To.one 4 rfl (ros aMb C.Af C.fn) rfl (TJ) (Jz 7 ?_)
 refine Jvf (Kl C.Af C.qf C.fn s _ hC.f rfl) rfl (ocs (oca 0 rfl) (ocn _)) ?_
 refine Jr (.bd [.int .u8 4,iv (oI (ixF s 0 C.fn)),iv 0,iv 0]) ?_
 refine Jcf [3,3] (Ho F C hC cb A q l (⟨4,oI (ixF s 0 C.fn),0,0⟩:Ins) (by simp only[lap,lc1,ln0];omega)) ?_
 rintro _ _ ⟨An_3,qn_3,rfl,rfl⟩
 refine Jn (Er (Dl (Cu (Co (.inr rfl) results226 ?_))))
 have h13:ixF s 0 C.ps=none:=by simpa using c13
 have h25:ixF s 0 C.vn=none:=by simpa using c25
 have hp:(C.cc F).pn s=⟨4,oI (ixF s 0 C.fn),0,0⟩:=by show(match ixF s 0 C.ps with|some k=>_|none=>match ixF s 0 C.vn with|some k=>_|none=>_)=_;rw[h13,h25]
 rw[hp];exact⟨_,_,rfl⟩
theorem dY(F:Fl)(C:Cp)(hC:C.Low F)(cb:Nat)(Ae:OA)(qe:Nat)(es:List Ex)(ih:∀x∈es,∀(A:OA) (q:Nat) (l:List Ins),(l++cE (C.cc F) x.pure).length≤1000000→Dz 219 [pv cb, .agg (Bw x).toArray] [box cb (cF F [vs C.Ah C.hs C.qh,nv C.own,vs C.Av C.vn C.qv,vs C.At C.tn C.qt,vs C.Af C.fn C.qf,vs C.Ap C.ps C.qp,vs A l q]) 171,rows Ins.cells 116 4 A q l,all (C.kids F),all (x.kids Bw)] (fun v Γ'=>∃(A':OA) (q':Nat),Γ'=[box cb (cF F [vs C.Ah C.hs C.qh,nv C.own,vs C.Av C.vn C.qv,vs C.At C.tn C.qt,vs C.Af C.fn C.qf,vs C.Ap C.ps C.qp,vs A' (l++cE (C.cc F) x.pure) q']) 171,rows Ins.cells 116 4 A' q' (l++cE (C.cc F) x.pure),all (C.kids F)]))(A:OA)(q:Nat)(l:List Ins)(hl:(l++cEs (C.cc F) (Cv es)).length≤1000000):
    Dz 203 [pv cb,vs Ae es qe] [box cb (cF F [vs C.Ah C.hs C.qh,nv C.own,vs C.Av C.vn C.qv,vs C.At C.tn C.qt,vs C.Af C.fn C.qf,vs C.Ap C.ps C.qp,vs A l q]) 171,rows Ins.cells 116 4 A q l,all (C.kids F),all (lsF Bw Ae es)] (fun v Γ'=>∃(A':OA) (q':Nat),Γ'=[box cb (cF F [vs C.Ah C.hs C.qh,nv C.own,vs C.Av C.vn C.qv,vs C.At C.tn C.qt,vs C.Af C.fn C.qf,vs C.Ap C.ps C.qp,vs A' (l++cEs (C.cc F) (Cv es)) q']) 171,rows Ins.cells 116 4 A' q' (l++cEs (C.cc F) (Cv es)),all (C.kids F)]):=by
 rw[lap]at hl
 have hal:=Yu (C.cc F) es
 refine Am func203 ntmps203 fun w0=>?_
 refine Js (To.one 3 rfl (ros Bw Ae es) rfl (aEd ..) (Jz 7 ?_))
 refine Cw (fun s g mz ρ Γ=>∃(Aj:OA) (qj:Nat) (lj:List Ins) (j:Nat),ρ=[s 0,s 6,s 7,(8,nv j)]∧Γ=[box cb (cF F [vs C.Ah C.hs C.qh,nv C.own,vs C.Av C.vn C.qv,vs C.At C.tn C.qt,vs C.Af C.fn C.qf,vs C.Ap C.ps C.qp,vs Aj lj qj]) 171,rows Ins.cells 116 4 Aj qj lj,g 3,g 0,g 4]∧mz=es.length-j∧(j≤es.length)∧(lj=l++cEs (C.cc F) (Cv (es.take j)))) ⟨⟨A,q,l,0,rfl,rfl,rfl,om,((aEz _).symm)⟩,sb⟩ ?_
 rintro mz _ _ ⟨Aj,qj,lj,j,rfl,rfl,rfl,hj,hlj⟩
 have hljl:lj.length=l.length+(cEs (C.cc F) (Cv (es.take j))).length:=by rw[hlj,lap]
 refine Jz 6 ?_
 refine Jcp rfl ?_ ?_<;>intro c9
 obtain⟨x,hx⟩:=exg es j om
 have hle:=YF (C.cc F) hx
 refine Jz 8 ?_
 refine Jal fun b5=>?_
 refine Jz 3 ?_
 refine Db 5 rfl (x.kids Bw) (Ex.lax Bw x) (Yo hx) (Jz 3 ?_)
 refine Jcf [2,2,2,0] (ih x (mog hx) Aj qj lj (by rw[lap];omega)) ?_
 rintro _ _ ⟨An,qn,rfl⟩
 refine Jz 8 ?_
 refine Cg ⟨⟨An,qn,(lj++cE (C.cc F) x.pure),j+1,rfl,rfl,rfl,om,(by rw[hlj,uT _ hx,aFb])⟩,sb⟩
 refine Jz 4 ?_
 refine Er (Dl (Co (.inr rfl) results203 ?_))
 have hE:lj=l++cEs (C.cc F) (Cv es):=by rw[hlj,aEm om]
 rw[hE];exact⟨_,_,rfl⟩
theorem yM(F:Fl)(C:Cp)(hC:C.Low F)(cb:Nat)(e:Ex)(ih:∀x∈e.args,∀(A:OA) (q:Nat) (l:List Ins),(l++cE (C.cc F) x.pure).length≤1000000→Dz 219 [pv cb, .agg (Bw x).toArray] [box cb (cF F [vs C.Ah C.hs C.qh,nv C.own,vs C.Av C.vn C.qv,vs C.At C.tn C.qt,vs C.Af C.fn C.qf,vs C.Ap C.ps C.qp,vs A l q]) 171,rows Ins.cells 116 4 A q l,all (C.kids F),all (x.kids Bw)] (fun v Γ'=>∃(A':OA) (q':Nat),Γ'=[box cb (cF F [vs C.Ah C.hs C.qh,nv C.own,vs C.Av C.vn C.qv,vs C.At C.tn C.qt,vs C.Af C.fn C.qf,vs C.Ap C.ps C.qp,vs A' (l++cE (C.cc F) x.pure) q']) 171,rows Ins.cells 116 4 A' q' (l++cE (C.cc F) x.pure),all (C.kids F)]))(A:OA)(q:Nat)(l:List Ins)(hl:(l++cE (C.cc F) e.pure).length≤1000000):
    Dz 219 [pv cb, .agg (Bw e).toArray] [box cb (cF F [vs C.Ah C.hs C.qh,nv C.own,vs C.Av C.vn C.qv,vs C.At C.tn C.qt,vs C.Af C.fn C.qf,vs C.Ap C.ps C.qp,vs A l q]) 171,rows Ins.cells 116 4 A q l,all (C.kids F),all (e.kids Bw)] (fun v Γ'=>∃(A':OA) (q':Nat),Γ'=[box cb (cF F [vs C.Ah C.hs C.qh,nv C.own,vs C.Av C.vn C.qv,vs C.At C.tn C.qt,vs C.Af C.fn C.qf,vs C.Ap C.ps C.qp,vs A' (l++cE (C.cc F) e.pure) q']) 171,rows Ins.cells 116 4 A' q' (l++cE (C.cc F) e.pure),all (C.kids F)]):=by
 have hEl:(cE (C.cc F) e.pure).length=(cEs (C.cc F) (Cv e.args)).length+1:=by rw[Fu,cE,lap];rfl
 rw[lap]at hl
 have hll:(l++cEs (C.cc F) (Cv e.args)).length=l.length+(cEs (C.cc F) (Cv e.args)).length:=lap ..
 refine Am func219 ntmps219 fun w0=>?_
 refine Js (To.g (Jbo fun b3=>?_))
 refine Jz 3 ?_
 refine Db 4 rfl (lsF Bw e.A e.args) (Ma _ _ _) (fun c hc=>by rw[Lg];exact hc) (Jz 4 ?_)
 refine Jcf [2,2,2,0] (dY F C hC cb e.A e.q e.args ih A q l (by rw[lap];omega)) ?_
 rintro _ _ ⟨An,qn,rfl⟩
 refine Jz 15 ?_
 refine Jcp rfl ?_ ?_<;>intro k15
 refine Jz 4 ?_
 refine Jr (.bd [.int .u8 1,iv 0,iv 0,iv e.n]) ?_
 refine Jcf [0,0] (Ho F C hC cb An qn (l++cEs (C.cc F) (Cv e.args)) (⟨1,0,0,e.n⟩:Ins) (by simp only[lap,lc1,ln0];omega)) ?_
 rintro _ _ ⟨An_2,qn_2,rfl,rfl⟩
 refine Jn (Jbn (Er (Dl (Co (.inr rfl) results219 ?_))))
 have hop:opI (C.cc F) e.op e.name e.n=(⟨1,0,0,e.n⟩:Ins):=by unfold opI;rw[aEh om]
 have hE:(l++cEs (C.cc F) (Cv e.args))++[(⟨1,0,0,e.n⟩:Ins)]=l++cE (C.cc F) e.pure:=by rw[Fu,←hop,aFb];rfl
 rw[hE];exact⟨_,_,rfl⟩
 refine Jz 6 ?_
 refine Jcp rfl ?_ ?_<;>intro k22
 refine Jz 2 ?_
 refine Jr (.bd [.int .u8 1,iv 0,iv 0,iv 1]) ?_
 refine Jcf [0,0] (Ho F C hC cb An qn (l++cEs (C.cc F) (Cv e.args)) (⟨1,0,0,1⟩:Ins) (by simp only[lap,lc1,ln0];omega)) ?_
 rintro _ _ ⟨An_3,qn_3,rfl,rfl⟩
 refine Jn (Jbn (Er (Dl (Co (.inr rfl) results219 ?_))))
 have hop:opI (C.cc F) e.op e.name e.n=(⟨1,0,0,1⟩:Ins):=by unfold opI;rw[aEa om,aEh om]
 have hE:(l++cEs (C.cc F) (Cv e.args))++[(⟨1,0,0,1⟩:Ins)]=l++cE (C.cc F) e.pure:=by rw[Fu,←hop,aFb];rfl
 rw[hE];exact⟨_,_,rfl⟩
 refine Jz 6 ?_
 refine Jcp rfl ?_ ?_<;>intro k27
 refine Jz 2 ?_
 refine Jr (.bd [.int .u8 1,iv 0,iv 0,iv 0]) ?_
 refine Jcf [0,0] (Ho F C hC cb An qn (l++cEs (C.cc F) (Cv e.args)) (⟨1,0,0,0⟩:Ins) (by simp only[lap,lc1,ln0];omega)) ?_
 rintro _ _ ⟨An_4,qn_4,rfl,rfl⟩
 refine Jn (Jbn (Er (Dl (Co (.inr rfl) results219 ?_))))
 have hop:opI (C.cc F) e.op e.name e.n=(⟨1,0,0,0⟩:Ins):=by unfold opI;rw[aEa om,aEa om,aEh om]
 have hE:(l++cEs (C.cc F) (Cv e.args))++[(⟨1,0,0,0⟩:Ins)]=l++cE (C.cc F) e.pure:=by rw[Fu,←hop,aFb];rfl
 rw[hE];exact⟨_,_,rfl⟩
 refine Jz 6 ?_
 refine Jcp rfl ?_ ?_<;>intro k32
 refine Jz 2 ?_
 refine Jr (.bd [.int .u8 5,iv 0,iv 0,iv 0]) ?_
 refine Jcf [0,0] (Ho F C hC cb An qn (l++cEs (C.cc F) (Cv e.args)) (⟨5,0,0,0⟩:Ins) (by simp only[lap,lc1,ln0];omega)) ?_
 rintro _ _ ⟨An_5,qn_5,rfl,rfl⟩
 refine Jn (Jbn (Er (Dl (Co (.inr rfl) results219 ?_))))
 have hop:opI (C.cc F) e.op e.name e.n=(⟨5,0,0,0⟩:Ins):=by unfold opI;rw[aEa om,aEa om,aEa om,aEh om]
 have hE:(l++cEs (C.cc F) (Cv e.args))++[(⟨5,0,0,0⟩:Ins)]=l++cE (C.cc F) e.pure:=by rw[Fu,←hop,aFb];rfl
 rw[hE];exact⟨_,_,rfl⟩
 refine Jz 6 ?_
 refine Jcp rfl ?_ ?_<;>intro k37
 refine Jz 4 ?_
 refine Jcf [0,0,0] (NL F C hC cb An qn (l++cEs (C.cc F) (Cv e.args)) e.name (by rw[lap];show _+1≤_;omega)) ?_
 rintro _ _ ⟨An_6,qn_6,rfl⟩
 refine Jn (Jbn (Er (Dl (Co (.inr rfl) results219 ?_))))
 have hop:opI (C.cc F) e.op e.name e.n=(C.cc F).pn e.name:=by unfold opI;rw[aEa om,aEa om,aEa om,aEa om,aEh om]
 have hE:(l++cEs (C.cc F) (Cv e.args))++[(C.cc F).pn e.name]=l++cE (C.cc F) e.pure:=by rw[Fu,←hop,aFb];rfl
 rw[hE];exact⟨_,_,rfl⟩
 refine Jz 7 ?_
 refine Jcp rfl ?_ ?_<;>intro k43
 refine Jsp (Jt (Gm (congrArg (fun b=>some (Value.bool b)) (aEk k43)) (To.one 2 rfl (ros aMb C.At C.tn) rfl (aQ) (Jfw [box b3 (Bw e) 249] [0,1,2,3,4,5,7,8,106,309,10,511] (ocs (oca 4 rfl) (ocn _)) ?_))))
 refine Jz 9 ?_
 refine Fw.qf (Kl C.At C.qt C.tn e.name _ hC.t rfl) (ocs (oca 0 rfl) (ocn _)) ?_
 refine Fw.f rfl (.bd [.int .u8 ((e.op:Nat):Int),iv (oI (ixF e.name 0 C.tn)),iv 0,iv 0]) ?_
 refine Da [1,1] (Ho F C hC cb An qn (l++cEs (C.cc F) (Cv e.args)) (⟨e.op,oI (ixF e.name 0 C.tn),0,0⟩:Ins) (by simp only[lap,lc1,ln0];omega)) ?_
 rintro _ _ ⟨An_7,qn_7,rfl,rfl⟩
 refine⟨ocs (oca 4 rfl) (ocn _),?_⟩
 refine Jz 2 ?_
 refine Iu (Er (Cu (Co (.inr rfl) results219 ?_)))
 have hop:opI (C.cc F) e.op e.name e.n=(⟨e.op,oI (ixF e.name 0 C.tn),0,0⟩:Ins):=by unfold opI;rw[aEa om,aEa om,aEa om,aEa om,aEa om,aEh om];rfl
 have hE:(l++cEs (C.cc F) (Cv e.args))++[(⟨e.op,oI (ixF e.name 0 C.tn),0,0⟩:Ins)]=l++cE (C.cc F) e.pure:=by rw[Fu,←hop,aFb];rfl
 rw[hE];exact⟨_,_,rfl⟩
 refine Jz 6 ?_
 refine Jcp rfl ?_ ?_<;>intro k43_2
 refine Jsp (Jt (Gm (congrArg (fun b=>some (Value.bool b)) (aEk k43_2)) (To.one 2 rfl (ros aMb C.At C.tn) rfl (aQ) (Jfw [box b3 (Bw e) 249] [0,1,2,3,4,5,7,8,106,309,10,511] (ocs (oca 4 rfl) (ocn _)) ?_))))
 refine Jz 9 ?_
 refine Fw.qf (Kl C.At C.qt C.tn e.name _ hC.t rfl) (ocs (oca 0 rfl) (ocn _)) ?_
 refine Fw.f rfl (.bd [.int .u8 ((e.op:Nat):Int),iv (oI (ixF e.name 0 C.tn)),iv 0,iv 0]) ?_
 refine Da [1,1] (Ho F C hC cb An qn (l++cEs (C.cc F) (Cv e.args)) (⟨e.op,oI (ixF e.name 0 C.tn),0,0⟩:Ins) (by simp only[lap,lc1,ln0];omega)) ?_
 rintro _ _ ⟨An_8,qn_8,rfl,rfl⟩
 refine⟨ocs (oca 4 rfl) (ocn _),?_⟩
 refine Jz 2 ?_
 refine Iu (Er (Cu (Co (.inr rfl) results219 ?_)))
 have hop:opI (C.cc F) e.op e.name e.n=(⟨e.op,oI (ixF e.name 0 C.tn),0,0⟩:Ins):=by unfold opI;rw[aEa om,aEa om,aEa om,aEa om,aEa om,aEh om];rfl
 have hE:(l++cEs (C.cc F) (Cv e.args))++[(⟨e.op,oI (ixF e.name 0 C.tn),0,0⟩:Ins)]=l++cE (C.cc F) e.pure:=by rw[Fu,←hop,aFb];rfl
 rw[hE];exact⟨_,_,rfl⟩
 refine Jz 5 ?_
 refine Jcp rfl ?_ ?_<;>intro k43_3
 refine To.one 2 rfl (ros aMb C.At C.tn) rfl (aQ) (Jfw [box b3 (Bw e) 249] [0,1,2,3,4,5,7,8,106,309,10,511] (ocs (oca 4 rfl) (ocn _)) ?_)
 refine Jz 9 ?_
 refine Fw.qf (Kl C.At C.qt C.tn e.name _ hC.t rfl) (ocs (oca 0 rfl) (ocn _)) ?_
 refine Fw.f rfl (.bd [.int .u8 ((e.op:Nat):Int),iv (oI (ixF e.name 0 C.tn)),iv 0,iv 0]) ?_
 refine Da [1,1] (Ho F C hC cb An qn (l++cEs (C.cc F) (Cv e.args)) (⟨e.op,oI (ixF e.name 0 C.tn),0,0⟩:Ins) (by simp only[lap,lc1,ln0];omega)) ?_
 rintro _ _ ⟨An_9,qn_9,rfl,rfl⟩
 refine⟨ocs (oca 4 rfl) (ocn _),?_⟩
 refine Jz 2 ?_
 refine Iu (Er (Cu (Co (.inr rfl) results219 ?_)))
 have hop:opI (C.cc F) e.op e.name e.n=(⟨e.op,oI (ixF e.name 0 C.tn),0,0⟩:Ins):=by unfold opI;rw[aEa om,aEa om,aEa om,aEa om,aEa om,aEh om];rfl
 have hE:(l++cEs (C.cc F) (Cv e.args))++[(⟨e.op,oI (ixF e.name 0 C.tn),0,0⟩:Ins)]=l++cE (C.cc F) e.pure:=by rw[Fu,←hop,aFb];rfl
 rw[hE];exact⟨_,_,rfl⟩
 refine Jz 4 ?_
 refine Jr (.bd [.int .u8 ((e.op:Nat):Int),iv 0,iv 0,iv 0]) ?_
 refine Jcf [0,0] (Ho F C hC cb An qn (l++cEs (C.cc F) (Cv e.args)) (⟨e.op,0,0,0⟩:Ins) (by simp only[lap,lc1,ln0];omega)) ?_
 rintro _ _ ⟨An_10,qn_10,rfl,rfl⟩
 refine Jn (Jbn (Er (Dl (Co (.inr rfl) results219 ?_))))
 have hop:opI (C.cc F) e.op e.name e.n=(⟨e.op,0,0,0⟩:Ins):=by unfold opI;rw[aEa om,aEa om,aEa om,aEa om,aEa om,aEa om]
 have hE:(l++cEs (C.cc F) (Cv e.args))++[(⟨e.op,0,0,0⟩:Ins)]=l++cE (C.cc F) e.pure:=by rw[Fu,←hop,aFb];rfl
 rw[hE];exact⟨_,_,rfl⟩
theorem vC(F:Fl)(C:Cp)(hC:C.Low F)(cb:Nat):∀e:Ex,∀(A:OA) (q:Nat) (l:List Ins),(l++cE (C.cc F) e.pure).length≤1000000→Dz 219 [pv cb, .agg (Bw e).toArray] [box cb (cF F [vs C.Ah C.hs C.qh,nv C.own,vs C.Av C.vn C.qv,vs C.At C.tn C.qt,vs C.Af C.fn C.qf,vs C.Ap C.ps C.qp,vs A l q]) 171,rows Ins.cells 116 4 A q l,all (C.kids F),all (e.kids Bw)] (fun v Γ'=>∃(A':OA) (q':Nat),Γ'=[box cb (cF F [vs C.Ah C.hs C.qh,nv C.own,vs C.Av C.vn C.qv,vs C.At C.tn C.qt,vs C.Af C.fn C.qf,vs C.Ap C.ps C.qp,vs A' (l++cE (C.cc F) e.pure) q']) 171,rows Ins.cells 116 4 A' q' (l++cE (C.cc F) e.pure),all (C.kids F)])
 |e,A,q,l,hl=>yM F C hC cb e (fun x hx=>vC F C hC cb x) A q l hl
termination_by e=>SizeOf.sizeOf e
decreasing_by
 cases e with
 | mk op s n A q l=>
   have:=aFq (show x∈l from hx)
   simp only[Ex.mk.sizeOf_spec]
   omega
theorem GI(F:Fl)(C:Cp)(hC:C.Low F)(cb:Nat)(Ae:OA)(qe:Nat)(es:List Ex)(A:OA)(q:Nat)(l:List Ins)(hl:(l++cEs (C.cc F) (Cv es)).length≤1000000):Dz 203 [pv cb,vs Ae es qe] [box cb (cF F [vs C.Ah C.hs C.qh,nv C.own,vs C.Av C.vn C.qv,vs C.At C.tn C.qt,vs C.Af C.fn C.qf,vs C.Ap C.ps C.qp,vs A l q]) 171,rows Ins.cells 116 4 A q l,all (C.kids F),all (lsF Bw Ae es)] (fun v Γ'=>∃(A':OA) (q':Nat),Γ'=[box cb (cF F [vs C.Ah C.hs C.qh,nv C.own,vs C.Av C.vn C.qv,vs C.At C.tn C.qt,vs C.Af C.fn C.qf,vs C.Ap C.ps C.qp,vs A' (l++cEs (C.cc F) (Cv es)) q']) 171,rows Ins.cells 116 4 A' q' (l++cEs (C.cc F) (Cv es)),all (C.kids F)]):=dY F C hC cb Ae qe es (fun x _=>vC F C hC cb x) A q l hl
end Go.Proofs.YtlihklladkagpaaGreatDoor

/- Own text. -/
import Derived.Test.YtihgdnjkofpgiaaGreatDoorWa
import Derived.Test.YtihgdnjkofpgiaaGreatDoorH5
set_option maxHeartbeats 8000000
set_option maxRecDepth 100000
set_option linter.unusedVariables false
set_option linter.unusedSimpArgs false
namespace Go.Proofs.YtihgdnjkofpgiaaGreatDoor
open Go.Proofs.Tryz
open Go.RowKit Go.Flow Go.Mem Go.Sep Go.In
theorem KW{s:yB}:∀{l:List yB} {k:Nat},s∈l→(ixF s k l).isSome=true
 |[],_,h=>by cases h
 | x ::r,k,h=>by
   by_cases hx:x=s
   ·rw[ixF,aPr hx];rfl
   · rw[ixF,aPf hx]
     rcases aPi.1 h with h|h
     ·exact aPu h.symm hx
     ·exact KW h
theorem aDj{s:yB}{l:List yB}{k:Nat}(h:(ixF s k l).isSome=false):s∉l:=fun hm=>by rw[KW hm]at h;cases h
theorem WZ{s:yB}:∀{l:List yB} {k:Nat},(ixF s k l).isSome=true→s∈l
 |[],_,h=>by cases h
 | x::r,k,h=>by
   by_cases hx:x=s
   ·rw[hx];exact aPc ..
   ·rw[ixF,aPf hx]at h;exact aPb _ (WZ h)
def Cp.at(C:Cp)(h:Hd):Cp:={C with Ap:=h.Ap,qp:=h.qp,ps:=h.ps}
structure aIi(F:Fl)(ci:Nat)(c:Cm)(C:Cp):Prop where
 hs:C.hs.map HN.l=F.comps.map fun c=>hnames (c.vers.map Vs.pure)
 own:C.own=ci
 vn:C.vn=Oo c.vars false
 tn:C.tn=Oo c.vars true
 fn:C.fn=F.flags.map Fg.name
theorem aMj{F:Fl}{ci:Nat}{c:Cm}{C:Cp}(h:aIi F ci c C)(x:Hd):(C.at x).cc F=ccP F.pure ci c.vars x.ps:=by
 have e1:F.pure.comps.map PC.name=F.comps.map Cm.name:=by show(F.comps.map Cm.pure).map PC.name=_;rw[aRt];rfl
 have e2:(F.pure.comps.map fun c=>hnames c.vers)=C.hs.map HN.l:=by rw[h.hs];show(F.comps.map Cm.pure).map _=_;rw[aRt];rfl
 have e3:F.pure.flags=F.flags:=rfl;unfold Cp.cc ccP;simp only[BJ,Cp.at,h.vn,h.tn,h.fn,h.own,e1,e2,e3];rfl
abbrev aMk(F:Fl)(ci:Nat)(c:Cm)(x:Hd):List Ins:=cB (ccP F.pure ci c.vars x.ps) (Am x.body) 0
theorem XA{F:Fl}(h:Ji F.pure){ci:Nat}{c:Cm}(hc:F.comps[ci]?=some c){v:Vs}(hv:v∈c.vers){x:Hd}(hx:x∈v.l):aMk F ci c x=Ha F c x:=by
 obtain⟨ct,ar,ok⟩:=h.okC (Uz hc);have hgv:=ok.vers v.pure (aPx.2 ⟨v,hv,rfl⟩);obtain⟨k,hk⟩:=aRb hx;have gh:=hgv.2.2 k x.pure (by show(v.l.map Hd.pure)[k]?=_;rw[aPs,hk];rfl);obtain⟨np,hnp,hps,hst⟩:=gh.ps;have hnp2:np≤2:=(ok.ok.each ar (av ok.arr)).2.2 np (av hnp);have hps:x.ps=nms 112 np:=hps;have hst:∀s∈Am x.body,StE ct np 3 s:=hst;show cB (ccP F.pure ci c.vars x.ps) _ 0=cB (ccR F.pure c.name c.vars x.ps) _ 0;rw[hps];exact Wo _ _ fun s hs p=>(hst s hs).same (ok.isP hnp2) (ok.isR hnp2) p
structure mZ(F:Fl)(c:Cm)(C:Cp)(x:Hd):Prop where
 eq:cB ((C.at x).cc F) (Am x.body) 0=Ha F c x
 ps:x.ps.length≤2
 len:(Ha F c x).length≤3816
 form:∀i∈Ha F c x,Vy ((x.ps.length:Nat):Int) (Ha F c x).length i=true
theorem aDk{F:Fl}(h:Ji F.pure){ci:Nat}{c:Cm}(hc:F.comps[ci]?=some c){C:Cp}(hC:aIi F ci c C){v:Vs}(hv:v∈c.vers){x:Hd}(hx:x∈v.l):mZ F c C x:=by
 have g:=Zt h hc hv hx;have hp:=g.ps;exact⟨by rw[aMj hC];exact XA h hc hv hx,g.ps,g.len,fun i hi=>by rw[←aBf om];exact g.form i hi⟩
def BO(F:Fl)(c:Cm)(x:Hd)(A:OA)(q:Nat):PU:=⟨x.ps.length,(Lr (Ha F c x)).1,A,q,Ha F c x⟩
theorem eZ{Γ:List Ad}{w:wD}{α:Type}{enc:α→List vU}{size:Nat}(E:Enc enc size)(hp:0<size){A:OA}{l:List α}(hA:A.isNone=true)(i:Nat)(h:Γ[i]?=some (ros enc A l))(hs:sat Γ w):l=[]:=by
 cases hl:l with
 |nil=>rfl
 | cons x r=>
   have:=RN E hp (A:=A) (l:=l) (by rw[hl];simp) i h hs;rw[hA]at this;cases this
theorem PZ(A:OA)(q:Nat)(l:List yB)(hl:l.length≤1000000):
    Dz 78 [vs A l q] [ros Dc A l] (fun v Γ'=>∃B p,v=vs B l p∧Γ'=[rows Dc 9 1 B p l]):=by
 refine Ba func78 ntmps78 fun w0=>?_;refine Jz 9 ?_;refine Jr (Cn (v':= .bool A.isNone) rfl (bS (A:=A) rfl underlying54 rfl rfl)) ?_;refine Jn (Jt (Ej rfl (fun c4=>?_) (fun c4=>?_)));refine Js (kU (p:=l=[]) (fun w hw=>eZ Di de c4 0 rfl hw) (fun hl0=>?_));subst hl0;refine Dv (enc:=Dc) (e:=9) (size:=1) (Jz 6 ?_);refine Em [0] rfl (bv results78 ?_);exact⟨_,_,rfl,rfl⟩;refine Jz 4 ?_;refine Jmk rfl rfl rfl (Vi (enc:=Dc) rfl s54) ?_;rintro _ _ ⟨A5,rfl,rfl⟩;refine Jm ?_;refine Jge rfl rfl rfl (Jf Di (i:=0) (m:=l) rfl s54 rfl rfl rfl (uJ (i:=1) rfl) om om) ?_;rintro _ _ ⟨A7,q7,rfl,rfl⟩;refine Jz 4 ?_;refine Em [0] rfl (bv results78 ?_);exact⟨_,_,rfl,rfl⟩
theorem tF(A:OA)(q:Nat)(l:List PU)(hl:l.length≤1000000):
    Dz 89 [vs A l q] [ros Sv A l] (fun v Γ'=>∃B p,v=vs B l p∧Γ'=[rows Sv 63 3 B p l]):=by
 refine Ba func89 ntmps89 fun w0=>?_;refine Jz 9 ?_;refine Jr (Cn (v':= .bool A.isNone) rfl (bS (A:=A) rfl underlying143 rfl rfl)) ?_;refine Jn (Jt (Ej rfl (fun c4=>?_) (fun c4=>?_)));refine Js (kU (p:=l=[]) (fun w hw=>eZ eY de c4 0 rfl hw) (fun hl0=>?_));subst hl0;refine Dv (enc:=Sv) (e:=63) (size:=3) (Jz 6 ?_);refine Em [0] rfl (bv results89 ?_);exact⟨_,_,rfl,rfl⟩;refine Jz 4 ?_;refine Jmk rfl rfl rfl (Vi (enc:=Sv) rfl aGt) ?_;rintro _ _ ⟨A5,rfl,rfl⟩;refine Jm ?_;refine Jge rfl rfl rfl (Jf eY (i:=0) (m:=l) rfl aGt rfl rfl rfl (uJ (i:=1) rfl) om om) ?_;rintro _ _ ⟨A7,q7,rfl,rfl⟩;refine Jz 4 ?_;refine Em [0] rfl (bv results89 ?_);exact⟨_,_,rfl,rfl⟩
theorem tH(A:OA)(q:Nat)(l:List Bool)(hl:l.length≤1000000):
    Dz 90 [vs A l q] [ros Sw A l] (fun v Γ'=>∃B p,v=vs B l p∧Γ'=[rows Sw 4 1 B p l]):=by
 refine Ba func90 ntmps90 fun w0=>?_;refine Jz 9 ?_;refine Jr (Cn (v':= .bool A.isNone) rfl (bS (A:=A) rfl underlying142 rfl rfl)) ?_;refine Jn (Jt (Ej rfl (fun c4=>?_) (fun c4=>?_)));refine Js (kU (p:=l=[]) (fun w hw=>eZ oW de c4 0 rfl hw) (fun hl0=>?_));subst hl0;refine Dv (enc:=Sw) (e:=4) (size:=1) (Jz 6 ?_);refine Em [0] rfl (bv results90 ?_);exact⟨_,_,rfl,rfl⟩;refine Jz 4 ?_;refine Jmk rfl rfl rfl (Vi (enc:=Sw) rfl aGs) ?_;rintro _ _ ⟨A5,rfl,rfl⟩;refine Jm ?_;refine Jge rfl rfl rfl (Jf oW (i:=0) (m:=l) rfl aGs rfl rfl rfl (uJ (i:=1) rfl) om om) ?_;rintro _ _ ⟨A7,q7,rfl,rfl⟩;refine Jz 4 ?_;refine Em [0] rfl (bv results90 ?_);exact⟨_,_,rfl,rfl⟩
theorem QA(c:Cm)(hcv:c.vers.length≤2)(hvs:∀v∈c.vers,v.l.length≤3):
    Dz 49 [.agg (cX c []).toArray] [all (c.kids eX)] (fun v Γ'=>∃(A:OA) (q:Nat),v= .slice A (hnames (c.vers.map Vs.pure)).length q∧Γ'=[rows Dc 9 1 A q (hnames (c.vers.map Vs.pure))]):=by
 refine Ba func49 ntmps49 fun w0=>?_;refine Js (dh (Jbo fun b1=>?_));refine Jz 10 ?_;refine bz 1 rfl (ros Fq c.An c.vers) rfl (Kk (k:=eX)) (Jz 8 ?_);refine Dv (enc:=Dc) (e:=9) (size:=1) (Bz (fun s g mz ρ Γ=>∃(Ao:OA) (qo:Nat) (O:List yB) (j:Nat),ρ=[s 1,(3,vs Ao O qo),s 9,s 10,(11,nv j)]∧Γ=[g 2,g 3,g 1,rows Dc 9 1 Ao qo O]∧mz=c.vers.length-j∧(j≤c.vers.length)∧(hnames (c.vers.map Vs.pure)=((c.vers.drop j).map Vs.pure).foldl Qu O)∧(O.length≤3*j)) ⟨⟨none,0,([]:List yB),0,rfl,rfl,rfl,(aQb _),rfl,(aQb _)⟩,sb⟩ ?_);rintro mz _ _ ⟨Ao,qo,O,j,rfl,rfl,rfl,hj,hO,hOl⟩;refine Jz 6 ?_;refine ax rfl ?_ ?_<;>intro k12;obtain⟨v,hv⟩:=bq c.vers j om;have hvl:=hvs v (av hv);refine Jz 8 ?_;refine ay fun b5=>?_;refine Jz 4 ?_;refine bz 2 rfl (ros Ii v.A v.l) rfl (Ir hv _ Ue) (Jz 8 ?_);refine Bz (fun s g mz ρ Γ=>∃(Ao:OA) (qo:Nat) (O:List yB) (k:Nat),ρ=[s 1,(3,vs Ao O qo),s 9,s 10,s 11,s 16,s 17,(18,nv k)]∧Γ=[g 2,g 3,g 4,g 0,rows Dc 9 1 Ao qo O]∧mz=v.l.length-k∧(k≤v.l.length)∧(hnames (c.vers.map Vs.pure)=((c.vers.drop (j+1)).map Vs.pure).foldl Qu (Qu O ((v.l.drop k).map Hd.pure)))∧(O.length≤3*j+k)) ⟨⟨Ao,qo,O,0,rfl,rfl,rfl,(aQb _),(by rw[hO,mdg _ hv];rfl),om⟩,sb⟩ ?_;rintro mz _ _ ⟨Ao,qo,O,k,rfl,rfl,rfl,hk,hO1,hOl1⟩;refine Jz 6 ?_;refine ax rfl ?_ ?_<;>intro k19;obtain⟨y,hy⟩:=bq v.l k om;refine Jz 8 ?_;refine ay fun b7=>?_;refine Jz 8 ?_;refine Jvf (Tx Ao qo O y.name _ om rfl) rfl (ag (Nq 5 rfl) (af _)) ?_;refine Jz 3 ?_;refine Ej rfl ?_ ?_<;>intro k26;have hm:¬(y.pure).name∈O:=show¬y.name∈O from aDj (k:=0) (by simpa using k26);refine Jz 4 ?_;refine Er [.string y.name] fun b30=>?_;refine Jge rfl rfl rfl (Cf Di (i:=6) (j:=0) (el:=y.name) rfl s54 rfl rfl rfl rfl rfl om om) ?_;rintro _ _ ⟨A31,q31,rfl,rfl⟩;refine Jz 9 ?_;refine Bp ⟨⟨A31,q31,(O++[y.name]),k+1,rfl,rfl,rfl,om,(by rw[hO1,mdg _ hy,Sr,aPf hm];rfl),(by rw[bu];show O.length+1≤_;omega)⟩,sb⟩;have hm:(y.pure).name∈O:=show y.name∈O from WZ (k:=0) (by simpa using k26);refine Jz 8 ?_;refine Bp ⟨⟨Ao,qo,O,k+1,rfl,rfl,rfl,om,(by rw[hO1,mdg _ hy,Sr,aPr hm]),om⟩,sb⟩;refine Jz 11 ?_;refine Bp ⟨⟨Ao,qo,O,j+1,rfl,rfl,rfl,om,(by rw[hO1,aQy om];rfl),om⟩,sb⟩;refine Jz 12 ?_;refine Ck (Cr (Cq (bv results49 ?_)));exact⟨Ao,qo,by rw[hO,aQy om];rfl,by rw[hO,aQy om];rfl⟩
theorem XB(F:Fl)(c:Cm)(C:Cp)(hC:C.Low F)(cb:Nat)(h:Hd)(hps:h.ps.length≤2)(hT:TyH F c h)(hG:mZ F c C h)(Ax Ay:OA)(nx qx ny qy:Nat):
    Dz 88 [pv cb, .agg (Ii h).toArray] [box cb (cF F [vs C.Ah C.hs C.qh,nv C.own,vs C.Av C.vn C.qv,vs C.At C.tn C.qt,vs C.Af C.fn C.qf, .slice Ax nx qx, .slice Ay ny qy]) 131,all (C.kids F),all (h.kids eX),Fx] (fun v Γ'=>∃(A:OA) (q:Nat),v= .agg (Sv (BO F c h A q)).toArray∧Γ'=[box cb (cF F [vs C.Ah C.hs C.qh,nv C.own,vs C.Av C.vn C.qv,vs C.At C.tn C.qt,vs C.Af C.fn C.qf,vs h.Ap h.ps h.qp,vs A (Ha F c h) q]) 131,rows Ins.cells 147 4 A q (Ha F c h),all (C.kids F)]):=by
 have hcl:=hG.len;refine Ba func88 ntmps88 fun w0=>?_;refine Js (dh (Jbo fun b3=>?_));refine ay fun b4=>?_;refine Jz 17 ?_;have hC':(C.at h).Low F:=⟨by show h.ps.length≤12;omega,hC.v,hC.t,hC.f,hC.c,hC.h,hC.o,hC.each⟩
 have hce:[]++cB ((C.at h).cc F) (Am h.body) ([]:List Ins).length=Ha F c h:=hG.eq;have hcb:=WY F (C.at h) hC' cb c ⟨F.Af,F.qf,F.flags,c.Av,c.qv,c.vars,h.Ap,h.qp,h.ps⟩ h.Ab h.qb h.body none 0 [] hT.body (by rw[hce];omega);rw[hce]at hcb;refine Dv (enc:=Ins.cells) (e:=147) (size:=4) (Cg 5 rfl (lsG Be Ca h.Ab h.body) (Dj _ _ _ _) (Qf (k:=eX)) (bz 6 rfl (ros Dc h.Ap h.ps) rfl (Zn (k:=eX)) (Cg 6 rfl ((C.kids F).tail) (fun z hz=>Cp.lax F C z (List.mem_of_mem_tail hz)) (fun z hz=>List.mem_of_mem_tail hz) (Lh (Cz (Jz 4 ?_))))));refine az [5,2,0,0] (hcb) ?_;rintro _ _ ⟨Ak,qk,rfl⟩;refine Jz 8 ?_;refine Jvf (EZ ((h.ps.length:Nat):Int) Ak qk (Ha F c h) om hG.form) rfl (ag (Nq 1 rfl) (ag (au 7 rfl) (af _))) ?_;refine Jz 8 ?_;refine Jfw [] [0,3,4,5,6,101,2,107,8,509] (af _) ?_;refine Jz 8 ?_;refine di rfl (.bd [nv h.ps.length,iv ((Lr (Ha F c h)).1),vs Ak (Ha F c h) qk]) ?_;refine dm rfl rfl rfl (Co (i:=3) rfl rfl rfl r63 rfl rfl rfl (bta rfl)) (af _) ?_;refine Jz 3 ?_;refine Ee [0,0,3] results88 ?_;exact⟨Ak,qk,rfl,rfl⟩
structure Stl where
 own:Nat
 A1:OA
 n1:Nat
 q1:Nat
 A2:OA
 n2:Nat
 q2:Nat
 A3:OA
 n3:Nat
 q3:Nat
 A4:OA
 n4:Nat
 q4:Nat
 A5:OA
 n5:Nat
 q5:Nat
def iZ(F:Fl)(Ah:OA)(hs:List HN):List Ad:=ros Wy Ah hs::ros Gm F.Ac F.comps::hs.map (fun h=>ros Dc h.A h.l)
theorem tJ(F:Fl)(Ah:OA)(hs:List HN):Lax (iZ F Ah hs):=gy rfl (gy rfl (by rw[eT];exact Gt fun h _=>kG))
theorem BP{F:Fl}{Ah:OA}{hs:List HN}{i:Nat}{h:HN}(hh:hs[i]?=some h):ros Dc h.A h.l∈iZ F Ah hs:=aPb _ (aPb _ (aPx.2 ⟨h,av hh,rfl⟩))
theorem XC{F:Fl}{Ah:OA}{hs:List HN}:ros Wy Ah hs∈iZ F Ah hs:=aPc ..
theorem Zu{l:List Vr}{k:Nat}{y:Vr}(h:l[k]?=some y)(tab:Bool):Oo (l.take (k+1)) tab=Oo (l.take k) tab++(if decide (y.ty=3)==tab then [y.name]else []):=by
 rw[Cy h];unfold Oo;rw[List.filter_append,aPn];congr 1;cases e:decide (y.ty=3)==tab
 ·rw[List.filter_cons_of_neg (by simpa using e)];rfl
 ·rw[List.filter_cons_of_pos (by simpa using e)];rfl
theorem KX(l:List Vr)(tab:Bool):(Oo l tab).length≤l.length:=by unfold Oo;rw[aPg];exact List.length_filter_le ..
theorem QB(s:yB)(o:oP Hd){l:List Hd}{m:Nat}{y:Hd}(h:l[m]?=some y):Xf s o (l.take (m+1))=if y.name=s then some y else Xf s o (l.take m):=by
 rw[Cy h];unfold Xf;rw[List.foldl_append];rfl
theorem QC(s:yB)(o:oP Hd){l:List Vs}{j:Nat}{v:Vs}(h:l[j]?=some v):Lu s o (l.take (j+1))=Xf s (Lu s o (l.take j)) v.l:=by
 rw[Cy h];unfold Lu;rw[List.foldl_append];rfl
def UAt(F:Fl)(c:Cm)(u:PU)(b:Bool):oP Hd→Prop
 |none=>u=zPU∧b=false
 |some h=>b=true∧∃A q,u=BO F c h A q
structure fA(F:Fl)(c:Cm)(names:List yB)(o:yB→oP Hd)(U:List PU)(B:List Bool):Prop where
 u:U.length=names.length
 b:B.length=names.length
 at_:∀(k:Nat) (s:yB),names[k]?=some s→∃u b,U[k]?=some u∧B[k]?=some b∧UAt F c u b (o s)
section
variable{F:Fl}{c:Cm}{names:List yB}{o o':yB→oP Hd}{U:List PU}{B:List Bool}
theorem fA.init:fA F c names (fun _=>none) (List.replicate names.length zPU) (List.replicate names.length false):=⟨aQj ..,aQj ..,fun k s h=>by
 have hk:=(aOz.1 h).1;exact⟨zPU,false,by rw[List.getElem?_replicate,aPr hk],by rw[List.getElem?_replicate,aPr hk],rfl,rfl⟩⟩
theorem fA.congr(h:fA F c names o U B)(e:∀s,o' s=o s):fA F c names o' U B:=by
 obtain rfl:o'=o:=funext e;exact h
theorem fA.step{nn m:Nat}{y:Hd}{A:OA}{q:Nat}(h:fA F c names o U B)(hn:names=nms 104 nn)(hnn:nn≤3)(hy:y.name=nm 104 m)(hm:m<nn)(e:∀s,o' s=if y.name=s then some y else o s):fA F c names o' (U.set m (BO F c y A q)) (B.set m true):=by
 have hln:names.length=nn:=by rw[hn,Dn]
 refine⟨by rw[aPh];exact h.u,by rw[aPh];exact h.b,fun k s hk=>?_⟩;have hkl:=(aOz.1 hk).1;have hs:s=nm 104 k:=by rw[hn,Ed om]at hk;exact(aPq hk).symm
 have hu:=h.u;have hb:=h.b;by_cases e1:m=k
 · subst e1
   refine⟨BO F c y A q,true,List.getElem?_set_self om,List.getElem?_set_self om,?_⟩;rw[e,aPr (by rw[hy,hs])];exact⟨rfl,A,q,rfl⟩
 · obtain⟨u,b,h1,h2,h3⟩:=h.at_ k s hk
   refine⟨u,b,by rw[List.getElem?_set_ne e1];exact h1,by rw[List.getElem?_set_ne e1];exact h2,?_⟩;rw[e,aPf (fun e2=>?_)]
   ·exact h3
   · rw[hy,hs]at e2
     exact e1 (Po de de om om e2).2
end
def pI(F:Fl)(c:Cm)(names:List yB)(us:List PV)(fs:List PB):Prop:=∀(i:Nat) (v:PV) (b:PB),us[i]?=some v→fs[i]?=some b→fA F c names (fun s=>Lu s none (c.vers.take (i+1))) v.l b.l
theorem pI.push{F:Fl}{c:Cm}{names:List yB}{us:List PV}{fs:List PB}{j:Nat}{v:PV}{b:PB}(h:pI F c names us fs)(hu:us.length=j)(hf:fs.length=j)(hv:fA F c names (fun s=>Lu s none (c.vers.take (j+1))) v.l b.l):pI F c names (us++[v]) (fs++[b]):=fun i v' b' h1 h2=>by
 by_cases e:i<j
 · rw[aQh om]at h1 h2
   exact h i v' b' h1 h2
 · have hl:=(aOz.1 h1).1
   rw[bu]at hl;have hl:i<us.length+1:=hl;obtain rfl:i=j:=om;rw[aQt om]at h1 h2;rw[hu,aRo]at h1;rw[hf,aRo]at h2;obtain rfl:v=v':=by simpa using h1
   obtain rfl:b=b':=by simpa using h2
   exact hv
structure XD(F:Fl)(c:Cm)(p:PP):Prop where
 names:p.names=hnames (c.vers.map Vs.pure)
 ul:p.us.length=c.vers.length
 fl:p.fs.length=c.vers.length
 inv:pI F c p.names p.us p.fs
structure CmW(c:Cm)(nn:Nat):Prop where
 hn:hnames (c.vers.map Vs.pure)=nms 104 nn
 n3:nn≤3
 each:∀v∈c.vers,∀(m:Nat) (y:Hd),v.l[m]?=some y→y.name=nm 104 m∧m<nn
theorem cmW{F:Fl}(h:Ji F.pure){ci:Nat}{c:Cm}(hc:F.comps[ci]?=some c):∃nn,CmW c nn:=by
 obtain⟨ct,ar,ok⟩:=h.okC (Uz hc);have har:=ok.ok.each ar (av ok.arr);refine⟨ar.length,ok.hn,har.2.1,fun v hv m y hy=>?_⟩;have gv:=ok.vers v.pure (aPx.2 ⟨v,hv,rfl⟩);have gh:=gv.2.2 m y.pure (by show(v.l.map Hd.pure)[m]?=_;rw[aPs,hy];rfl);have hpl:v.pure.length=v.l.length:=aPg ..;exact⟨gh.name,by have h2:=gv.2.1;have h3:m<v.l.length:=(aOz.1 hy).1;omega⟩
theorem aDl{U:List PU}{m:Nat}{u:PU}:∀c∈kUs (U.set m u),c∈ros Ins.cells u.A u.l::kUs U:=fun c hc=>by
 obtain⟨u',hu,hc⟩:=aQe.1 hc;obtain rfl:=aPj.1 hc;rcases List.mem_or_eq_of_mem_set hu with h|rfl
 ·exact aPb _ (aQe.2 ⟨u',h,aPc ..⟩)
 ·exact aPc ..
section
variable{C:Cx}{ρ:Bo}{Γ:List Ad}{K:Act→wD→Prop}
theorem KY:∀(n:Nat),To C ρ (all (kUs (List.replicate n zPU))::Γ) K→To C ρ Γ K
 |0,k=>Hz k
 |n+1,k=>KY n (Dv (enc:=Ins.cells) (e:=0) (size:=4) (Dt (Cz k)))
end
def ClR{α:Type}(enc:α→List vU)(t:tI)(size:Nat)(l:List α):vU→List Ad→Prop:=fun v Γ'=>∃(B:OA) (p:Nat),v=vs B l p∧Γ'=[rows enc t size B p l]
def kPB(b:PB):List Ad:=[ros Sw b.A b.l]
theorem BQ(F:Fl)(hF:Ji F.pure)(hF0:Nk F)(ci:Nat)(c:Cm)(hc:F.comps[ci]?=some c)(hcg:c.Good)(hT:TyC F ci c)(nn:Nat)(hW:CmW c nn)(Ah:OA)(qh:Nat)(hs:List HN)(hn:HN)(hhn:hs[ci]?=some hn)(hnl:hn.l=nms 104 nn)(hhs:hs.map HN.l=F.comps.map fun c=>hnames (c.vers.map Vs.pure))(hh12:∀h∈hs,h.l.length≤12)(cb:Nat)(z:Stl):
    Dz 50 [pv cb,nv ci] [box cb (cF F [vs Ah hs qh,nv z.own, .slice z.A1 z.n1 z.q1, .slice z.A2 z.n2 z.q2, .slice z.A3 z.n3 z.q3, .slice z.A4 z.n4 z.q4, .slice z.A5 z.n5 z.q5]) 131,all (iZ F Ah hs),all (F.kids eX),Fx] (fun v Γ'=>∃(p:PP) (z':Stl),v= .agg (Tz p).toArray∧Γ'=[box cb (cF F [vs Ah hs qh,nv z'.own, .slice z'.A1 z'.n1 z'.q1, .slice z'.A2 z'.n2 z'.q2, .slice z'.A3 z'.n3 z'.q3, .slice z'.A4 z'.n4 z'.q4, .slice z'.A5 z'.n5 z'.q5]) 131,all p.kids]∧XD F c p):=by
 have hFf:=hF0.flags;have hcv:=hcg.vars;have hcn:=hcg.vers2;refine Ba func50 ntmps50 fun w0=>?_;refine Js (dh (ay fun b4=>?_));refine Jz 3 ?_;refine bz 3 rfl (ros Gm F.Ac F.comps) rfl (En (k:=eX)) (Jz 9 ?_);refine ay fun b5=>?_;refine Jz 26 ?_;refine bz 5 rfl (ros Gh F.Af F.flags) rfl (Nh (k:=eX)) (Jz 11 ?_);refine Dv (enc:=Dc) (e:=9) (size:=1) (Bz (fun s g mz ρ Γ=>∃(Az:OA) (qz:Nat) (fl:List yB) (j:Nat),ρ=[s 0,s 1,s 4,s 5,s 43,s 44,(45,nv j)]∧Γ=[box cb (cF F [vs Ah hs qh,nv ci,nz,nz,vs Az fl qz, .slice z.A4 z.n4 z.q4, .slice z.A5 z.n5 z.q5]) 131,g 4,g 2,g 6,g 7,Fx,g 1,rows Dc 9 1 Az qz fl]∧mz=F.flags.length-j∧(j≤F.flags.length)∧(fl=(F.flags.take j).map Fg.name)) ⟨⟨none,0,([]:List yB),0,rfl,rfl,rfl,(aQb _),rfl⟩,sb⟩ ?_);rintro mz _ _ ⟨Az,qz,fl,j,rfl,rfl,rfl,hj,hfl⟩;have hfll:fl.length=j:=by rw[hfl,aPg,aPo];omega
 refine Jz 6 ?_;refine ax rfl ?_ ?_<;>intro k46;obtain⟨y,hy⟩:=bq F.flags j om;refine Jz 8 ?_;refine ay fun b7=>?_;refine Jz 3 ?_;refine Jfw [] [0,1,2,3,5,104,106,207,8508,9,10,511] (af _) ?_;refine Jz 7 ?_;refine Ew [.string y.name] fun b56=>?_;refine Fw.ge rfl rfl rfl rfl (Cf Di (i:=9) (j:=0) (el:=y.name) rfl s54 rfl rfl rfl rfl rfl om om) ?_;rintro _ _ ⟨A57,q57,rfl,rfl⟩;refine⟨af _,?_⟩;refine Jz 2 ?_;refine dm rfl rfl rfl (df (i:=2) rfl rfl rfl c54 rfl rfl (bt1 rfl)) (af _) ?_;refine Jz 8 ?_;refine Bp ⟨⟨A57,q57,(fl++[y.name]),j+1,rfl,rfl,rfl,om,(by rw[Cy hy,aPn,hfl];rfl)⟩,sb⟩;refine Jz 7 ?_;refine bz 4 rfl (ros Hg c.Av c.vars) rfl (Dg hc _ Kj) (Jz 8 ?_);refine Dv (enc:=Dc) (e:=9) (size:=1) (Dv (enc:=Dc) (e:=9) (size:=1) (Bz (fun s g mz ρ Γ=>∃(Av:OA) (qv:Nat) (vn:List yB) (At:OA) (qt:Nat) (tn:List yB) (k:Nat),ρ=[s 0,s 1,s 4,s 5,(62,vs c.Av c.vars c.qv),s 63,(64,nv k)]∧Γ=[box cb (cF F [vs Ah hs qh,nv ci,vs Av vn qv,vs At tn qt,vs Az fl qz, .slice z.A4 z.n4 z.q4, .slice z.A5 z.n5 z.q5]) 131,g 4,g 5,g 6,g 7,Fx,ros Hg c.Av c.vars,g 10,rows Dc 9 1 Av qv vn,rows Dc 9 1 At qt tn]∧mz=c.vars.length-k∧(k≤c.vars.length)∧(vn=Oo (c.vars.take k) false)∧(tn=Oo (c.vars.take k) true)) ⟨⟨none,0,([]:List yB),none,0,([]:List yB),0,rfl,rfl,rfl,(aQb _),rfl,rfl⟩,sb⟩ ?_));rintro mz _ _ ⟨Av,qv,vn,At,qt,tn,k,rfl,rfl,rfl,hk,hvn,htn⟩;have hvl:=KX (c.vars.take k) false;have htl:=KX (c.vars.take k) true;rw[←hvn,aPo]at hvl;rw[←htn,aPo]at htl;refine Jz 6 ?_;refine ax rfl ?_ ?_<;>intro k65;obtain⟨y,hy⟩:=bq c.vars k om;refine Jz 8 ?_;refine ay fun b9=>?_;refine Jz 10 ?_;refine ax rfl ?_ ?_<;>intro k70;refine Jfw [] [0,1,2,3,5,104,106,207,8508,9,10,511] (af _) ?_;refine Jz 7 ?_;refine Ew [.string y.name] fun b78=>?_;refine Fw.ge rfl rfl rfl rfl (Cf Di (i:=11) (j:=0) (el:=y.name) rfl s54 rfl rfl rfl rfl rfl om om) ?_;rintro _ _ ⟨A79,q79,rfl,rfl⟩;refine⟨af _,?_⟩;refine Jz 2 ?_;refine dm rfl rfl rfl (df (i:=2) rfl rfl rfl c54 rfl rfl (bt1 rfl)) (af _) ?_;refine Jz 8 ?_;refine Bp ⟨⟨Av,qv,vn,A79,q79,(tn++[y.name]),k+1,rfl,rfl,rfl,om,(by rw[Zu hy,←hvn,show(decide (y.ty=3)==false)=false from by rw[aQg om];rfl];exact(aPw _).symm),(by rw[Zu hy,←htn,show(decide (y.ty=3)==true)=true from by rw[aQg om];rfl];rfl)⟩,sb⟩;refine Jfw [] [0,1,2,3,5,104,106,207,8508,9,10,511] (af _) ?_;refine Jz 7 ?_;refine Ew [.string y.name] fun b89=>?_;refine Fw.ge rfl rfl rfl rfl (Cf Di (i:=10) (j:=0) (el:=y.name) rfl s54 rfl rfl rfl rfl rfl om om) ?_;rintro _ _ ⟨A90,q90,rfl,rfl⟩;refine⟨af _,?_⟩;refine Jz 2 ?_;refine dm rfl rfl rfl (df (i:=2) rfl rfl rfl c54 rfl rfl (bt1 rfl)) (af _) ?_;refine Jz 8 ?_;refine Bp ⟨⟨A90,q90,(vn++[y.name]),At,qt,tn,k+1,rfl,rfl,rfl,om,(by rw[Zu hy,←hvn,show(decide (y.ty=3)==false)=true from by rw[aQk om];rfl];rfl),(by rw[Zu hy,←htn,show(decide (y.ty=3)==true)=false from by rw[aQk om];rfl];exact(aPw _).symm)⟩,sb⟩;refine Jz 6 ?_;refine bz 3 rfl (ros Wy Ah hs) rfl (XC) (Jz 8 ?_);refine Jr (.bd [vs hn.A hn.l hn.q,nz,nz]) ?_;refine ay fun b10=>?_;refine Jz 4 ?_;have hflE:fl=F.flags.map Fg.name:=by rw[hfl,aQa om]
 have hvnE:vn=Oo c.vars false:=by rw[hvn,aQa om]
 have htnE:tn=Oo c.vars true:=by rw[htn,aQa om]
 refine Cg 5 rfl (iZ F Ah hs) (tJ F Ah hs) (fun z hz=>hz) (lH (Dt (Cz (Rf (Dt (Cz (lH (Dt (Cz (Dv (enc:=Dc) (e:=9) (size:=1) (Dt (Cz ?_))))))))))));have hCp:aIi F ci c (⟨Ah,qh,hs,ci,Av,qv,vn,At,qt,tn,Az,qz,fl,none,0,[]⟩:Cp):=⟨hhs,rfl,hvnE,htnE,hflE⟩
 have hhl:=aPe List.length hhs;rw[aPg,aPg]at hhl;have hFc:=hF0.comps;have hCl:Cp.Low F (⟨Ah,qh,hs,ci,Av,qv,vn,At,qt,tn,Az,qz,fl,none,0,[]⟩:Cp):=⟨aQb _,by show vn.length≤12;omega,by show tn.length≤12;omega,by show fl.length≤12;omega,by omega,hhl,(aOz.1 hhn).1,hh12⟩
 have hnl3:hn.l.length≤3:=by rw[hnl,Dn];exact hW.n3
 refine Ou [] [⟨0,[],0⟩,⟨4,[],0⟩,⟨1,[],1⟩,⟨2,[],0⟩,⟨3,[],2⟩,⟨8,[3],0⟩,⟨5,[],1⟩,⟨6,[],0⟩,⟨7,[],2⟩,⟨9,[3,7],0⟩] mixed.h kr (af _) (Jz 4 ?_);refine Fw.mk rfl rfl rfl rfl rfl (Nr (enc:=Sv) (z:=zPU) (n:=hn.l.length) rfl de rfl aGt rfl rfl om (by simp only[maxLen];omega)) ?_;rintro _ _ ⟨b105,rfl,rfl⟩;refine Jz 3 ?_;refine Fw.mk rfl rfl rfl rfl rfl (Tf (enc:=Sw) (z:=false) (n:=hn.l.length) rfl rfl aGs rfl rfl om (by simp only[maxLen];omega)) ?_;rintro _ _ ⟨b109,rfl,rfl⟩;refine Jz 5 ?_;refine bz 9 rfl (ros Fq c.An c.vers) rfl (Dg hc _ Kk) (Jz 8 ?_);refine Dv (enc:=oV) (e:=143) (size:=1) (Dv (enc:=iX) (e:=142) (size:=1) (Hz (Hz (KY hn.l.length (Bz (fun u g mz ρ Γ=>∃(Ax:OA) (nx:Nat) (qx:Nat) (Ay:OA) (ny:Nat) (qy:Nat) (U:List PU) (B:List Bool) (us:List PV) (Au:OA) (qu:Nat) (fs:List PB) (Ag:OA) (qg:Nat) (j:Nat),ρ=[u 0,u 1,u 4,u 5,u 10,(11,vs (some ⟨b105,0,none⟩) U hn.l.length),(12,vs (some ⟨b109,0,none⟩) B hn.l.length),u 111,u 112,(113,nv j)]∧Γ=[box cb (cF F [vs Ah hs qh,nv ci,vs Av vn qv,vs At tn qt,vs Az fl qz, .slice Ax nx qx, .slice Ay ny qy]) 131,g 8,g 12,g 13,g 14,g 15,Fx,g 5,box b10 [vs hn.A hn.l hn.q,vs Au us qu,vs Ag fs qg] 139,rows Sv 63 3 (some ⟨b105,0,none⟩) hn.l.length U,rows Sw 4 1 (some ⟨b109,0,none⟩) hn.l.length B,all (kUs U),rows oV 143 1 Au qu us,rows iX 142 1 Ag qg fs,all (us.flatMap PV.kids),all (fs.flatMap kPB)]∧mz=c.vers.length-j∧(j≤c.vers.length)∧(us.length=j)∧(fs.length=j)∧(fA F c hn.l (fun s=>Lu s none (c.vers.take j)) U B)∧(pI F c hn.l us fs)) ⟨⟨_,_,_,_,_,_,(List.replicate hn.l.length zPU),(List.replicate hn.l.length false),([]:List PV),none,0,([]:List PB),none,0,0,rfl,rfl,rfl,(aQb _),rfl,rfl,fA.init,(fun i v b h=>by simp at h)⟩,sb⟩ ?_)))));rintro mz _ _ ⟨Ax,nx,qx,Ay,ny,qy,U,B,us,Au,qu,fs,Ag,qg,j,rfl,rfl,rfl,hj,hus,hfs,hI,hUs⟩;have hUl:=hI.u;have hBl:=hI.b;refine Jz 6 ?_;refine ax rfl ?_ ?_<;>intro k114;obtain⟨v,hv⟩:=bq c.vers j om;have hvm:=av hv;have hvg:=hcg.ver v hvm;have hvl:=hvg.1;refine Jz 8 ?_;refine ay fun b14=>?_;refine Jz 5 ?_;refine bz 6 rfl (ros Ii v.A v.l) rfl (Dg hc _ (Ir hv _ Ue)) (Jz 8 ?_);refine Bz (fun u g mz ρ Γ=>∃(Ax:OA) (nx:Nat) (qx:Nat) (Ay:OA) (ny:Nat) (qy:Nat) (U:List PU) (B:List Bool) (m:Nat),ρ=[u 0,u 1,u 4,u 5,u 10,(11,vs (some ⟨b105,0,none⟩) U hn.l.length),(12,vs (some ⟨b109,0,none⟩) B hn.l.length),u 111,u 112,u 118,u 119,(120,nv m),u 113]∧Γ=[box cb (cF F [vs Ah hs qh,nv ci,vs Av vn qv,vs At tn qt,vs Az fl qz, .slice Ax nx qx, .slice Ay ny qy]) 131,g 3,g 4,g 5,g 6,g 7,Fx,g 9,g 10,rows Sv 63 3 (some ⟨b105,0,none⟩) hn.l.length U,rows Sw 4 1 (some ⟨b109,0,none⟩) hn.l.length B,all (kUs U),g 14,g 15,g 16,g 17,g 0]∧mz=v.l.length-m∧(m≤v.l.length)∧(fA F c hn.l (fun s=>Xf s (Lu s none (c.vers.take j)) (v.l.take m)) U B)) ⟨⟨Ax,nx,qx,Ay,ny,qy,U,B,0,rfl,rfl,rfl,(aQb _),hI⟩,sb⟩ ?_;rintro mz _ _ ⟨Ax,nx,qx,Ay,ny,qy,U,B,m,rfl,rfl,rfl,hm,hI3⟩;have hUl:=hI3.u;have hBl:=hI3.b;refine Jz 6 ?_;refine ax rfl ?_ ?_<;>intro k121;obtain⟨y,hy⟩:=bq v.l m om;have hym:=av hy;obtain⟨hy1,hy2⟩:=hW.each v hvm m y hy;have hyg:=hvg.2 y hym;obtain⟨hd1,hd2,hd3⟩:=hT.hd j v hv m y hy;have hG:=aDk hF hc hCp hvm hym;have hnn:hn.l.length=nn:=by rw[hnl,Dn]
 obtain⟨u0,b0,hu0,hb0,-⟩:=hI3.at_ m y.name (by rw[hnl,hy1];exact Ed hy2);refine Jz 8 ?_;refine ay fun b16=>?_;refine Jz 4 ?_;refine bz 5 rfl (ros Dc hn.A hn.l) rfl (BP hhn) (Jz 5 ?_);refine Jvf (La hn.A hn.q hn.l y.name (some m) om (by rw[hnl,hy1,Ud de (by have:=hW.n3;omega) hy2 0,aQl])) rfl (ag (au 0 rfl) (af _)) ?_;refine Jz 3 ?_;refine Cg 7 rfl (y.kids eX) (Hd.lax eX y) (fun z hz=>Dg hc _ (Ir hv _ (Tt hy _ hz))) (Py 9 rfl rfl (Jz 7 ?_));refine az [4,4,1,0] (XB F c (⟨Ah,qh,hs,ci,Av,qv,vn,At,qt,tn,Az,qz,fl,none,0,[]⟩:Cp) hCl cb y hyg.ps hd3 hG Ax Ay nx qx ny qy) ?_;rintro _ _ ⟨Ak,qk,rfl,rfl⟩;refine Jz 1 ?_;refine To.u (Co (i:=12) (us:=Sv (BO F c y Ak qk)) rfl rfl rfl r63 (eY.len _) rfl rfl (Hl eY de om)) ?_;refine Jz 1 ?_;refine To.u (df (i:=13) rfl rfl rfl c4 rfl rfl (Hl oW (y:=true) de om)) ?_;refine Jz 3 ?_;refine IV (Ih (Dt (Cz (Cg 0 rfl (kUs (U.set m (BO F c y Ak qk))) (kH _) aDl (Jz 5 ?_)))));refine Jo [(0,pv cb),(1,nv ci),(4,pv b4),(5,pv b5),(10,pv b10),(11, .slice (some ⟨b105,0,none⟩) (U.set m (BO F c y Ak qk)).length hn.l.length),(12, .slice (some ⟨b109,0,none⟩) (B.set m true).length hn.l.length),(111,vs c.An c.vers c.qn),(112,nv c.vers.length),(118,vs v.A v.l v.q),(119,nv v.l.length),(120,nv ((m+1))),(113,nv j)] ⟨rfl,rfl,rfl,rfl,rfl,(aPe (fun n=>some (Value.slice (some ⟨b105,0,none⟩) n hn.l.length)) aPh.symm),(aPe (fun n=>some (Value.slice (some ⟨b109,0,none⟩) n hn.l.length)) aPh.symm),rfl,rfl,rfl,rfl,rfl,rfl,trivial⟩ (Gr (Dr (Cr (Rf (Rf (Rf (Rf (Rf (Rf (Rf (Rf (Rf (Rf (Rf (Jag (v.l.length-(m+1)) om ⟨y.Ap,y.ps.length,y.qp,Ak,((Ha F c y).length),qk,(U.set m (BO F c y Ak qk)),(B.set m true),m+1,rfl,rfl,rfl,om,(hI3.step hnl hW.n3 hy1 hy2 (fun s=>QB s _ hy))⟩)))))))))))))));refine Jz 5 ?_;have hI2:fA F c hn.l (fun s=>Lu s none (c.vers.take (j+1))) U B:=hI3.congr (fun s=>by rw[QC s none hv,show v.l.take m=v.l from aQa om]);refine Iq (tel [(3,(ClR Sv 63 3 U)),(9,(ClR Sw 4 1 B))]) mixed.h (Gd 7 5 rfl kr ?_ ?_);refine Qd [] [⟨0,[],0⟩,⟨2,[],0⟩,⟨6,[],0⟩,⟨8,[],0⟩,⟨3,[],4⟩,⟨1,[],1⟩,⟨4,[3],2⟩,⟨5,[3,4],5⟩,⟨9,[],4⟩,⟨7,[],1⟩,⟨12,[],0⟩,⟨10,[9],2⟩,⟨11,[9,10],5⟩,⟨13,[],5⟩,⟨14,[],0⟩,⟨15,[],5⟩] kr rfl (af _) (Jz 4 ?_);refine Fw.tf (tF (some ⟨b105,0,none⟩) hn.l.length U om) (ag (Nq 9 rfl) (af _)) (fun _ _ h=>by obtain⟨_,_,_,rfl⟩:=h;rfl) ?_;rintro _ _ ⟨Bu,pu,rfl,rfl⟩;refine Jz 1 ?_;refine Ew [vs Bu U pu] fun b143=>?_;refine Fw.ge rfl rfl rfl rfl (Cf BK (i:=14) (j:=0) (el:=(⟨Bu,pu,U⟩:PV)) rfl aKr rfl rfl rfl rfl rfl om om) ?_;rintro _ _ ⟨A144,q144,rfl,rfl⟩;refine⟨af _,?_⟩;refine Fw.tf (tH (some ⟨b109,0,none⟩) hn.l.length B om) (ag (Nq 12 rfl) (af _)) (fun _ _ h=>by obtain⟨_,_,_,rfl⟩:=h;rfl) ?_;rintro _ _ ⟨Bb,pb,rfl,rfl⟩;refine Jz 2 ?_;refine Ew [vs Bb B pb] fun b149=>?_;refine Fw.ge rfl rfl rfl rfl (Cf BL (i:=17) (j:=0) (el:=(⟨Bb,pb,B⟩:PB)) rfl aKt rfl rfl rfl rfl rfl om om) ?_;rintro _ _ ⟨A150,q150,rfl,rfl⟩;refine⟨af _,?_⟩;refine dm rfl rfl rfl (df (i:=12) rfl rfl rfl aKq rfl rfl (bt1 rfl)) (af _) ?_;refine Jz 1 ?_;refine dm rfl rfl rfl (df (i:=12) rfl rfl rfl aKs rfl rfl (bt1 rfl)) (af _) ?_;refine Jz 3 ?_;refine Cg 15 rfl (kUs U) (kH _) (fun z hz=>hz) (xJ (Lh (Ns (Dt (Cz (Sl (f:=PV.kids) us (⟨Bu,pu,U⟩:PV) (IW (Fv (Dt (dQ (Sl (f:=kPB) fs (⟨Bb,pb,B⟩:PB) (Jz 5 ?_))))))))))));refine Bp ⟨⟨Ax,nx,qx,Ay,ny,qy,U,B,(us++[(⟨Bu,pu,U⟩:PV)]),A144,q144,(fs++[(⟨Bb,pb,B⟩:PB)]),A150,q150,j+1,rfl,rfl,rfl,om,(by rw[bu,hus];rfl),(by rw[bu,hfs];rfl),hI2,(pI.push hUs hus hfs hI2)⟩,sb⟩;refine Qd [] [⟨0,[],0⟩,⟨2,[],0⟩,⟨6,[],0⟩,⟨8,[],0⟩,⟨3,[],4⟩,⟨1,[],1⟩,⟨4,[3],2⟩,⟨7,[],1⟩,⟨5,[3,4],5⟩,⟨12,[],0⟩,⟨9,[],4⟩,⟨10,[9],2⟩,⟨11,[9,10],5⟩,⟨13,[],5⟩,⟨14,[],0⟩,⟨15,[],5⟩] kr rfl (af _) (Jz 4 ?_);refine Fw.tf (tF (some ⟨b105,0,none⟩) hn.l.length U om) (ag (Nq 9 rfl) (af _)) (fun _ _ h=>by obtain⟨_,_,_,rfl⟩:=h;rfl) ?_;rintro _ _ ⟨Bu,pu,rfl,rfl⟩;refine Jz 1 ?_;refine Ew [vs Bu U pu] fun b143=>?_;refine Jz 1 ?_;refine Fw.ge rfl rfl rfl rfl (Cf BK (i:=14) (j:=0) (el:=(⟨Bu,pu,U⟩:PV)) rfl aKr rfl rfl rfl rfl rfl om om) ?_;rintro _ _ ⟨A144,q144,rfl,rfl⟩;refine⟨af _,?_⟩;refine Jz 1 ?_;refine Fw.tf (tH (some ⟨b109,0,none⟩) hn.l.length B om) (ag (Nq 12 rfl) (af _)) (fun _ _ h=>by obtain⟨_,_,_,rfl⟩:=h;rfl) ?_;rintro _ _ ⟨Bb,pb,rfl,rfl⟩;refine Ew [vs Bb B pb] fun b149=>?_;refine Fw.ge rfl rfl rfl rfl (Cf BL (i:=17) (j:=0) (el:=(⟨Bb,pb,B⟩:PB)) rfl aKt rfl rfl rfl rfl rfl om om) ?_;rintro _ _ ⟨A150,q150,rfl,rfl⟩;refine⟨af _,?_⟩;refine dm rfl rfl rfl (df (i:=12) rfl rfl rfl aKq rfl rfl (bt1 rfl)) (af _) ?_;refine Jz 1 ?_;refine dm rfl rfl rfl (df (i:=12) rfl rfl rfl aKs rfl rfl (bt1 rfl)) (af _) ?_;refine Jz 3 ?_;refine Cg 15 rfl (kUs U) (kH _) (fun z hz=>hz) (xJ (Lh (Ns (Dt (Cz (Sl (f:=PV.kids) us (⟨Bu,pu,U⟩:PV) (IW (Fv (Dt (dQ (Sl (f:=kPB) fs (⟨Bb,pb,B⟩:PB) (Jz 5 ?_))))))))))));refine Bp ⟨⟨Ax,nx,qx,Ay,ny,qy,U,B,(us++[(⟨Bu,pu,U⟩:PV)]),A144,q144,(fs++[(⟨Bb,pb,B⟩:PB)]),A150,q150,j+1,rfl,rfl,rfl,om,(by rw[bu,hus];rfl),(by rw[bu,hfs];rfl),hI2,(pI.push hUs hus hfs hI2)⟩,sb⟩;refine Jz 12 ?_;refine qO (qO (Ku (IV (Dt (Cz (RO (Dt (Cz (bz 5 rfl (ros Dc hn.A hn.l) rfl (BP hhn) (Lh (Lh (Cz (Ee [1,0] results50 ?_)))))))))))));exact⟨(⟨hn.A,hn.q,hn.l,Au,qu,us,Ag,qg,fs⟩:PP),(⟨ci,Av,vn.length,qv,At,tn.length,qt,Az,fl.length,qz,Ax,nx,qx,Ay,ny,qy⟩:Stl),rfl,rfl,⟨hnl.trans hW.hn.symm,by show us.length=_;omega,by show fs.length=_;omega,hUs⟩⟩
def kHN(h:HN):List Ad:=[ros Dc h.A h.l]
def BR(F:Fl)(ps:List PP):Prop:=∀(k:Nat) (c:Cm) (p:PP),F.comps[k]?=some c→ps[k]?=some p→XD F c p
theorem BR.push{F:Fl}{ps:List PP}{c:Cm}{p:PP}{k:Nat}(h:BR F ps)(hl:ps.length=k)(hc:F.comps[k]?=some c)(hp:XD F c p):BR F (ps++[p]):=fun i c' p' h1 h2=>by
 by_cases e:i<k
 · rw[aQh om]at h2
   exact h i c' p' h1 h2
 · have h3:=(aOz.1 h2).1
   rw[bu]at h3;have h3:i<ps.length+1:=h3;obtain rfl:i=k:=om;rw[aQt om,hl,aRo]at h2;rw[hc]at h1;obtain rfl:=aPq h1;obtain rfl:p=p':=by simpa using h2
   exact hp
structure bG(F:Fl)(ps:List PP):Prop where
 len:ps.length=F.comps.length
 inv:BR F ps
def pgk(b:Nat)(A:OA)(q:Nat)(ps:List PP):List Ad:=ro (some ⟨b,0,none⟩) [vs A ps q]::ros Tz A ps::ps.flatMap PP.kids
theorem PP.lax(p:PP):Lax p.kids:=gy rfl (gy rfl (gy rfl (Lax.app (Gt fun v _=>v.lax) (Gt fun _ _=>kG))))
theorem Lb(b:Nat)(A:OA)(q:Nat)(ps:List PP):Lax (pgk b A q ps):=gy rfl (gy rfl (Gt fun p _=>p.lax))
section
variable{b:Nat}{A:OA}{q:Nat}{ps:List PP}{p:PP}{k:Nat}{v:PV}{f:PB}{n:Nat}
theorem BS:ro (some ⟨b,0,none⟩) [vs A ps q]∈pgk b A q ps:=aPc ..
theorem BU:ros Tz A ps∈pgk b A q ps:=aPb _ (aPc ..)
theorem jA(h:ps[k]?=some p):∀z∈p.kids,z∈pgk b A q ps:=fun z hz=>aPb _ (aPb _ (aQe.2 ⟨p,av h,hz⟩))
theorem aIj:ros Dc p.An p.names∈p.kids:=aPc ..
end
theorem aIn{F:Fl}{hs:List HN}(h:hs.map HN.l=F.comps.map fun c=>hnames (c.vers.map Vs.pure)){ci:Nat}{c:Cm}(hc:F.comps[ci]?=some c):∃hn,hs[ci]?=some hn∧hn.l=hnames (c.vers.map Vs.pure):=by
 have h1:(hs.map HN.l)[ci]?=some (hnames (c.vers.map Vs.pure)):=by rw[h,aPs,hc];rfl
 rw[aPs]at h1;exact aPy.1 h1
theorem aFg{F:Fl}(hF:Ji F.pure){hs:List HN}(h:hs.map HN.l=F.comps.map fun c=>hnames (c.vers.map Vs.pure)):∀x∈hs,x.l.length≤12:=fun x hx=>by
 have h1:x.l∈hs.map HN.l:=aPx.2 ⟨x,hx,rfl⟩;rw[h]at h1;obtain⟨c,hc,e⟩:=aPx.1 h1;obtain⟨i,hi⟩:=aRb hc;obtain⟨nn,hW⟩:=cmW hF hi;rw[←e,hW.hn,Dn];have:=hW.n3;omega
theorem pJ(F:Fl)(hF:Ji F.pure)(hX:Nk F)(hCap:F.Cap):
    Dz 20 [.agg (cF F []).toArray] [all (F.kids eX),glc,p10c,Fx] (fun v Γ'=>∃(b:Nat) (A:OA) (q:Nat) (ps:List PP),v= .tuple #[pv b,iv 0]∧Γ'=[all (pgk b A q ps)]∧bG F ps):=by
 have hFc:=hX.comps;refine Ba func20 ntmps20 fun w0=>?_;refine Js (dh (Jbo fun b1=>?_));refine Jz 8 ?_;refine Jqf (gN F hX) (by show owns (F.kids eX)++(owns gl++[])=[];rw[(Fl.lax eX F).owns];rfl) (ag (au 1 rfl) (ag (au 2 rfl) (af _))) ?_;rintro _ _ ⟨rfl,rfl⟩;refine⟨rfl,?_⟩;refine Jz 16 ?_;refine Jqf (OZ F hX hCap (tyF hF)) (by show owns (F.kids eX)++(owns gl++(p10c.owns++[]))=[];rw[(Fl.lax eX F).owns];rfl) (ag (au 1 rfl) (ag (au 2 rfl) (ag (au 3 rfl) (af _)))) ?_;rintro _ _ ⟨rfl,rfl⟩;refine⟨rfl,?_⟩;refine Jz 3 ?_;refine ay fun b5=>?_;refine Jz 16 ?_;refine Jr (.bd (cF F [nz,iv 0,nz,nz,nz,nz,nz])) ?_;refine Jbo fun b27=>?_;refine Jz 5 ?_;refine bz 3 rfl (ros Gm F.Ac F.comps) rfl (En (k:=eX)) (Jz 8 ?_);refine Dv (enc:=Wy) (e:=54) (size:=1) (Hz (Bz (fun s g mz ρ Γ=>∃(Ah:OA) (qh:Nat) (hs:List HN) (j:Nat),ρ=[s 1,s 3,s 7,s 29,s 30,(31,nv j)]∧Γ=[box b27 (cF F [vs Ah hs qh,iv 0,nz,nz,nz,nz,nz]) 131,g 5,g 6,Fx,g 2,rows Wy 54 1 Ah qh hs,all (hs.flatMap kHN)]∧mz=F.comps.length-j∧(j≤F.comps.length)∧(hs.map HN.l=(F.comps.take j).map fun c=>hnames (c.vers.map Vs.pure))) ⟨⟨none,0,([]:List HN),0,rfl,rfl,rfl,(aQb _),rfl⟩,sb⟩ ?_));rintro mz _ _ ⟨Ah,qh,hs,j,rfl,rfl,rfl,hj,hhs⟩;have hhl:=aPe List.length hhs;rw[aPg,aPg,aPo]at hhl;refine Jz 6 ?_;refine ax rfl ?_ ?_<;>intro k32;obtain⟨x,hx⟩:=bq F.comps j om;have hxg:=hX.comp x (av hx);refine Jz 8 ?_;refine ay fun b9=>?_;refine Jz 3 ?_;refine Cg 3 rfl (x.kids eX) (Cm.lax eX x) (Dg hx) (Ou [] [⟨0,[],0⟩,⟨1,[],0⟩,⟨2,[],0⟩,⟨3,[],0⟩,⟨5,[],1⟩,⟨6,[],4⟩,⟨4,[],1⟩,⟨7,[6],2⟩,⟨8,[6,7],5⟩,⟨9,[],0⟩,⟨10,[],0⟩,⟨11,[],5⟩] mixed.h kr (af _) (Jz 5 ?_));refine Dy rfl rfl rfl rfl rfl .fc (QA x hxg.vers2 (fun v hv=>(hxg.ver v hv).1)) (by show owns (x.kids eX)++[]=[];rw[(Cm.lax eX x).owns];rfl) (ag (au 0 rfl) (af _)) ?_;rintro _ _ ⟨An,qn,rfl,rfl⟩;refine⟨rfl,?_⟩;refine Jz 1 ?_;refine Ew [vs An (hnames (x.vers.map Vs.pure)) qn] fun b42=>?_;refine Fw.ge rfl rfl rfl rfl (Cf WV (i:=9) (j:=0) (el:=(⟨An,qn,hnames (x.vers.map Vs.pure)⟩:HN)) rfl aNv rfl rfl rfl rfl rfl om om) ?_;rintro _ _ ⟨A43,q43,rfl,rfl⟩;refine⟨af _,?_⟩;refine Jz 2 ?_;refine dm rfl rfl rfl (df (i:=4) rfl rfl rfl aNu rfl rfl (bt1 rfl)) (af _) ?_;refine Jz 3 ?_;refine lH (Ih (Dt (dQ (Sl (f:=kHN) hs (⟨An,qn,hnames (x.vers.map Vs.pure)⟩:HN) (Jz 5 ?_)))));refine Bp ⟨⟨A43,q43,(hs++[(⟨An,qn,hnames (x.vers.map Vs.pure)⟩:HN)]),j+1,rfl,rfl,rfl,om,(by rw[aPn,Cy hx,aPn,hhs];rfl)⟩,sb⟩;refine Jz 7 ?_;refine Jr (.bd [nz]) ?_;refine Jbo fun b48=>?_;refine Jz 13 ?_;have hhE:hs.map HN.l=F.comps.map fun c=>hnames (c.vers.map Vs.pure):=by rw[hhs,aQa om]
 refine Zx (lG (Zx (Dt (Lh (Ih (Lh (Cz (Lh (Cz ?_)))))))));rw[show(ros Wy Ah hs::ros Gm F.Ac F.comps::hs.flatMap kHN)=iZ F Ah hs from by unfold iZ;rw[eT];rfl];refine Dv (enc:=Tz) (e:=139) (size:=3) (Hz (Bz (fun s g mz ρ Γ=>∃(z:Stl) (Ap:OA) (qp:Nat) (ps:List PP) (k:Nat),ρ=[s 1,s 3,s 7,s 10,s 51,(52,nv k)]∧Γ=[box b27 (cF F [vs Ah hs qh,nv z.own, .slice z.A1 z.n1 z.q1, .slice z.A2 z.n2 z.q2, .slice z.A3 z.n3 z.q3, .slice z.A4 z.n4 z.q4, .slice z.A5 z.n5 z.q5]) 131,g 5,g 6,Fx,g 2,box b48 [vs Ap ps qp] 135,rows Tz 139 3 Ap qp ps,all (ps.flatMap PP.kids)]∧mz=F.comps.length-k∧(k≤F.comps.length)∧(ps.length=k)∧(BR F ps)) ⟨⟨(⟨0,none,0,0,none,0,0,none,0,0,none,0,0,none,0,0⟩:Stl),none,0,([]:List PP),0,rfl,rfl,rfl,(aQb _),rfl,(fun k c p h1 h2=>by simp at h2)⟩,sb⟩ ?_));rintro mz _ _ ⟨z,Ap,qp,ps,k,rfl,rfl,rfl,hk,hpl,hps⟩;refine Jz 6 ?_;refine ax rfl ?_ ?_<;>intro k53;obtain⟨c,hc⟩:=bq F.comps k om;have hcg:=hX.comp c (av hc);obtain⟨nn,hW⟩:=cmW hF hc;obtain⟨hn,hhn,hnl⟩:=aIn hhE hc;refine Jz 10 ?_;refine Py 3 rfl rfl (Cg 3 rfl (F.kids eX) (Fl.lax eX F) (fun z hz=>hz) (Cg 6 rfl (iZ F Ah hs) (tJ F Ah hs) (fun z hz=>hz) (Iq (tel []) mixed.h (Gd 4 7 rfl kr ?_ ?_))));refine Jb [] [0,1,2,3,5,6,507,104,208,9509,10,11,512] (af _) ?_;refine Jz 6 ?_;refine Du [3,0,0,0] (BQ F hF hX k c hc hcg ((tyF hF).comp k c hc) nn hW Ah qh hs hn hhn (hnl.trans hW.hn) hhE (aFg hF hhE) b27 z) ?_;rintro _ _ ⟨p2,z2,rfl,rfl,hp2⟩;refine⟨af _,?_⟩;refine Jz 1 ?_;refine Ew [vs p2.An p2.names p2.qn,vs p2.Au p2.us p2.qu,vs p2.Af p2.fs p2.qf] fun b63=>?_;refine Fw.ge rfl rfl rfl rfl (Cf BM (i:=8) (j:=0) (el:=p2) rfl aKp rfl rfl rfl rfl rfl om om) ?_;rintro _ _ ⟨A64,q64,rfl,rfl⟩;refine⟨af _,?_⟩;refine Jz 2 ?_;refine dm rfl rfl rfl (df (i:=7) rfl rfl rfl dO rfl rfl (bta rfl)) (af _) ?_;refine Jz 3 ?_;refine aFt (Fv (Sl (f:=PP.kids) ps p2 (Jz 5 ?_)));refine Bp ⟨⟨z2,A64,q64,(ps++[p2]),k+1,rfl,rfl,rfl,om,(by rw[bu,hpl];rfl),(hps.push hpl hc hp2)⟩,sb⟩;refine Jb [] [0,1,2,3,5,6,104,507,208,9509,10,11,512] (af _) ?_;refine Jz 7 ?_;refine Du [3,0,0,0] (BQ F hF hX k c hc hcg ((tyF hF).comp k c hc) nn hW Ah qh hs hn hhn (hnl.trans hW.hn) hhE (aFg hF hhE) b27 z) ?_;rintro _ _ ⟨p2,z2,rfl,rfl,hp2⟩;refine⟨af _,?_⟩;refine Ew [vs p2.An p2.names p2.qn,vs p2.Au p2.us p2.qu,vs p2.Af p2.fs p2.qf] fun b63=>?_;refine Fw.ge rfl rfl rfl rfl (Cf BM (i:=8) (j:=0) (el:=p2) rfl aKp rfl rfl rfl rfl rfl om om) ?_;rintro _ _ ⟨A64,q64,rfl,rfl⟩;refine⟨af _,?_⟩;refine Jz 2 ?_;refine dm rfl rfl rfl (df (i:=7) rfl rfl rfl dO rfl rfl (bta rfl)) (af _) ?_;refine Jz 3 ?_;refine aFt (Fv (Sl (f:=PP.kids) ps p2 (Jz 5 ?_)));refine Bp ⟨⟨z2,A64,q64,(ps++[p2]),k+1,rfl,rfl,rfl,om,(by rw[bu,hpl];rfl),(hps.push hpl hc hp2)⟩,sb⟩;refine Jz 13 ?_;refine Zx (Zx (Dt (Cz (lG (Zd (Cz (Gr (Dr (Da (Ck (Cr (Eo (.inl rfl) results20 rfl rfl ?_))))))))))));exact⟨b48,Ap,qp,ps,rfl,rfl,⟨by omega,hps⟩⟩
theorem kI{F:Fl}{ps:List PP}(hP:bG F ps){ci:Nat}{c:Cm}(hc:F.comps[ci]?=some c):∃p,ps[ci]?=some p∧XD F c p:=by
 have hl:ci<ps.length:=by rw[hP.len];exact(aOz.1 hc).1
 exact⟨_,gge hl,hP.inv ci c _ hc (gge hl)⟩
theorem tK{P:pG}{f:FuncId}{args:List vU}{Γ:List Ad}{v:vU}{α:Type}{enc:α→List vU}{e:tI}{size:Nat}(h:Bg P f args Γ (fun r Γ'=>r=v∧Γ'=[])):Bg P f args Γ (fun r Γ'=>r=v∧Γ'=[rows enc e size none 0 ([]:List α)]):=fun w hs=>(h w hs).mono fun x w' ⟨r,Γ',h1,⟨h2,h3⟩,h4⟩=>by
 subst h3;have hk:Dk [] [rows enc e size none 0 ([]:List α)] w' w':=(show To ⟨0,[],w',[]⟩ [] [] (fun _ w2=>w2=w'→Dk [] [rows enc e size none 0 ([]:List α)] w' w')from Dv (enc:=enc) (e:=e) (size:=size) (fun _ w2 _ hp e2=>by subst e2;exact hp)) _ w' (Yz [] 0 rfl) (Dk.refl h4.sat) rfl;exact⟨r,_,h1,⟨h2,rfl⟩,h4.trans hk⟩
section
variable{F:Fl}{ps:List PP}{k:Nat}{c:Cm}{h:Nat}{s:yB}
end
end Go.Proofs.YtihgdnjkofpgiaaGreatDoor

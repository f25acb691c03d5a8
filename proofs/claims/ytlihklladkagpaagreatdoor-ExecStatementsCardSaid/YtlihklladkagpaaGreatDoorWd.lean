/- Own text. -/
import Derived.Test.YtlihklladkagpaaGreatDoorW3
import Derived.Test.YtlihklladkagpaaGreatDoorH5
set_option maxHeartbeats 8000000
set_option maxRecDepth 100000
set_option linter.unusedVariables false
set_option linter.unusedSimpArgs false
namespace Go.Proofs.YtlihklladkagpaaGreatDoor
open Go.Proofs.Tryz
open Go.RowKit Go.Flow Go.Mem Go.Sep Go.In
theorem CF{s:ByteArray}:∀{l:List ByteArray} {k:Nat},s∈l→(ixF s k l).isSome=true
 |[],_,h=>by cases h
 | x ::r,k,h=>by
   by_cases hx:x=s
   ·rw[ixF,aEh hx];rfl
   · rw[ixF,aEa hx]
     rcases aEi.1 h with h|h
     ·exact absurd h.symm hx
     ·exact CF h
theorem TM{s:ByteArray}{l:List ByteArray}{k:Nat}(h:(ixF s k l).isSome=false):s∉l:=fun hm=>by rw[CF hm]at h;cases h
theorem NN{s:ByteArray}:∀{l:List ByteArray} {k:Nat},(ixF s k l).isSome=true→s∈l
 |[],_,h=>by cases h
 | x::r,k,h=>by
   by_cases hx:x=s
   ·rw[hx];exact aEd ..
   ·rw[ixF,aEa hx]at h;exact aEb _ (NN h)
def Cp.at(C:Cp)(h:Hd):Cp:={C with Ap:=h.Ap,qp:=h.qp,ps:=h.ps}
structure YI(F:Fl)(ci:Nat)(c:Cm)(C:Cp):Prop where
 hs:C.hs.map HN.l=F.comps.map fun c=>hnames (c.vers.map Vs.pure)
 own:C.own=ci
 vn:C.vn=Oa c.vars false
 tn:C.tn=Oa c.vars true
 fn:C.fn=F.flags.map Fg.name
theorem aCe{F:Fl}{ci:Nat}{c:Cm}{C:Cp}(h:YI F ci c C)(x:Hd):(C.at x).cc F=ccP F.pure ci c.vars x.ps:=by
 have e1:F.pure.comps.map PC.name=F.comps.map Cm.name:=by show(F.comps.map Cm.pure).map PC.name=_;rw[aGr];rfl
 have e2:(F.pure.comps.map fun c=>hnames c.vers)=C.hs.map HN.l:=by rw[h.hs];show(F.comps.map Cm.pure).map _=_;rw[aGr];rfl
 have e3:F.pure.flags=F.flags:=rfl
 unfold Cp.cc ccP
 simp only[uX,Cp.at,h.vn,h.tn,h.fn,h.own,e1,e2,e3]
 rfl
abbrev aCf(F:Fl)(ci:Nat)(c:Cm)(x:Hd):List Ins:=cB (ccP F.pure ci c.vars x.ps) (Ba x.body) 0
theorem NP{F:Fl}(h:Ku F.pure){ci:Nat}{c:Cm}(hc:F.comps[ci]?=some c){v:Vs}(hv:v∈c.vers){x:Hd}(hx:x∈v.l):aCf F ci c x=Gh F c x:=by
 obtain⟨ct,ar,ok⟩:=h.okC (Oo hc)
 have hgv:=ok.vers v.pure (aEv.2 ⟨v,hv,rfl⟩)
 obtain⟨k,hk⟩:=aFt hx
 have gh:=hgv.2.2 k x.pure (by show(v.l.map Hd.pure)[k]?=_;rw[aEp,hk];rfl)
 obtain⟨np,hnp,hps,hst⟩:=gh.ps
 have hnp2:np≤2:=(ok.ok.each ar (mog ok.arr)).2.2 np (mog hnp)
 have hps:x.ps=nms 112 np:=hps
 have hst:∀s∈Ba x.body,StE ct np 3 s:=hst
 show cB (ccP F.pure ci c.vars x.ps) _ 0=cB (ccR F.pure c.name c.vars x.ps) _ 0
 rw[hps]
 exact Uv _ _ fun s hs p=>(hst s hs).same (ok.isP hnp2) (ok.isR hnp2) p
structure xI(F:Fl)(c:Cm)(C:Cp)(x:Hd):Prop where
 eq:cB ((C.at x).cc F) (Ba x.body) 0=Gh F c x
 ps:x.ps.length≤2
 len:(Gh F c x).length≤3816
 form:∀i∈Gh F c x,Gn ((x.ps.length:Nat):Int) (Gh F c x).length i=true
theorem TN{F:Fl}(h:Ku F.pure){ci:Nat}{c:Cm}(hc:F.comps[ci]?=some c){C:Cp}(hC:YI F ci c C){v:Vs}(hv:v∈c.vers){x:Hd}(hx:x∈v.l):xI F c C x:=by
 have g:=Xe h hc hv hx
 have hp:=g.ps
 exact⟨by rw[aCe hC];exact NP h hc hv hx,g.ps,g.len,fun i hi=>by rw[←AO om];exact g.form i hi⟩
def rA(F:Fl)(c:Cm)(x:Hd)(A:OA)(q:Nat):PU:=⟨x.ps.length,(Et (Gh F c x)).1,A,q,Gh F c x⟩
theorem kS{Γ:List Ai}{w:World}{α:Type}{enc:α→List Value}{size:Nat}(E:Enc enc size)(hp:0<size){A:OA}{l:List α}(hA:A.isNone=true)(i:Nat)(h:Γ[i]?=some (ros enc A l))(hs:sat Γ w):l=[]:=by
 cases hl:l with
 |nil=>rfl
 | cons x r=>
   have:=rR E hp (A:=A) (l:=l) (by rw[hl];simp) i h hs
   rw[hA]at this;cases this
theorem GJ(A:OA)(q:Nat)(l:List Ins)(hl:l.length≤1000000):
    Dz 57 [vs A l q] [ros Ins.cells A l] (fun v Γ'=>∃B p,v=vs B l p∧Γ'=[rows Ins.cells 116 4 B p l]):=by
 refine Am func57 ntmps57 fun w0=>?_
 refine Jz 9 ?_
 refine Jr (Cr (v':= .bool A.isNone) rfl (Tp (A:=A) rfl underlying41 rfl rfl)) ?_
 refine Jn (Jt (Ed rfl (fun c4=>?_) (fun c4=>?_)))
 refine Js (Lt (p:=l=[]) (fun w hw=>kS Zp (by decide) c4 0 rfl hw) (fun hl0=>?_))
 subst hl0
 refine Cz (enc:=Ins.cells) (e:=116) (size:=4) (Jz 6 ?_)
 refine Ce [0] rfl (Je1 results57 ?_)
 exact⟨_,_,rfl,rfl⟩
 refine Jz 4 ?_
 refine Jmk rfl rfl rfl (Hg (enc:=Ins.cells) rfl s41) ?_
 rintro _ _ ⟨A5,rfl,rfl⟩
 refine Jm ?_
 refine Jge rfl rfl rfl (Hf Zp (i:=0) (m:=l) rfl s41 rfl rfl rfl (Ya (i:=1) rfl) om om) ?_
 rintro _ _ ⟨A7,q7,rfl,rfl⟩
 refine Jz 4 ?_
 refine Ce [0] rfl (Je1 results57 ?_)
 exact⟨_,_,rfl,rfl⟩
theorem nN(A:OA)(q:Nat)(l:List PU)(hl:l.length≤1000000):
    Dz 93 [vs A l q] [ros Sc A l] (fun v Γ'=>∃B p,v=vs B l p∧Γ'=[rows Sc 43 3 B p l]):=by
 refine Am func93 ntmps93 fun w0=>?_
 refine Jz 9 ?_
 refine Jr (Cr (v':= .bool A.isNone) rfl (Tp (A:=A) rfl underlying197 rfl rfl)) ?_
 refine Jn (Jt (Ed rfl (fun c4=>?_) (fun c4=>?_)))
 refine Js (Lt (p:=l=[]) (fun w hw=>kS aR (by decide) c4 0 rfl hw) (fun hl0=>?_))
 subst hl0
 refine Cz (enc:=Sc) (e:=43) (size:=3) (Jz 6 ?_)
 refine Ce [0] rfl (Je1 results93 ?_)
 exact⟨_,_,rfl,rfl⟩
 refine Jz 4 ?_
 refine Jmk rfl rfl rfl (Hg (enc:=Sc) rfl WT) ?_
 rintro _ _ ⟨A5,rfl,rfl⟩
 refine Jm ?_
 refine Jge rfl rfl rfl (Hf aR (i:=0) (m:=l) rfl WT rfl rfl rfl (Ya (i:=1) rfl) om om) ?_
 rintro _ _ ⟨A7,q7,rfl,rfl⟩
 refine Jz 4 ?_
 refine Ce [0] rfl (Je1 results93 ?_)
 exact⟨_,_,rfl,rfl⟩
theorem nO(A:OA)(q:Nat)(l:List Bool)(hl:l.length≤1000000):
    Dz 94 [vs A l q] [ros Sd A l] (fun v Γ'=>∃B p,v=vs B l p∧Γ'=[rows Sd 4 1 B p l]):=by
 refine Am func94 ntmps94 fun w0=>?_
 refine Jz 9 ?_
 refine Jr (Cr (v':= .bool A.isNone) rfl (Tp (A:=A) rfl underlying61 rfl rfl)) ?_
 refine Jn (Jt (Ed rfl (fun c4=>?_) (fun c4=>?_)))
 refine Js (Lt (p:=l=[]) (fun w hw=>kS kP (by decide) c4 0 rfl hw) (fun hl0=>?_))
 subst hl0
 refine Cz (enc:=Sd) (e:=4) (size:=1) (Jz 6 ?_)
 refine Ce [0] rfl (Je1 results94 ?_)
 exact⟨_,_,rfl,rfl⟩
 refine Jz 4 ?_
 refine Jmk rfl rfl rfl (Hg (enc:=Sd) rfl s61) ?_
 rintro _ _ ⟨A5,rfl,rfl⟩
 refine Jm ?_
 refine Jge rfl rfl rfl (Hf kP (i:=0) (m:=l) rfl s61 rfl rfl rfl (Ya (i:=1) rfl) om om) ?_
 rintro _ _ ⟨A7,q7,rfl,rfl⟩
 refine Jz 4 ?_
 refine Ce [0] rfl (Je1 results94 ?_)
 exact⟨_,_,rfl,rfl⟩
theorem GK(c:Cm)(hcv:c.vers.length≤2)(hvs:∀v∈c.vers,v.l.length≤3):
    Dz 54 [.agg (cX c []).toArray] [all (c.kids eX)] (fun v Γ'=>∃(A:OA) (q:Nat),v= .slice A (hnames (c.vers.map Vs.pure)).length q∧Γ'=[rows aMb 9 1 A q (hnames (c.vers.map Vs.pure))]):=by
 refine Am func54 ntmps54 fun w0=>?_
 refine Js (To.g (Jbo fun b1=>?_))
 refine Jz 10 ?_
 refine To.one 1 rfl (ros Ik c.An c.vers) rfl (Lm (k:=eX)) (Jz 8 ?_)
 refine Cz (enc:=aMb) (e:=9) (size:=1) (Cw (fun s g mz ρ Γ=>∃(Ao:OA) (qo:Nat) (O:List ByteArray) (j:Nat),ρ=[s 1,(3,vs Ao O qo),s 9,s 10,(11,nv j)]∧Γ=[g 2,g 3,g 1,rows aMb 9 1 Ao qo O]∧mz=c.vers.length-j∧(j≤c.vers.length)∧(hnames (c.vers.map Vs.pure)=((c.vers.drop j).map Vs.pure).foldl Uz O)∧(O.length≤3*j)) ⟨⟨none,0,([]:List ByteArray),0,rfl,rfl,rfl,om,rfl,om⟩,sb⟩ ?_)
 rintro mz _ _ ⟨Ao,qo,O,j,rfl,rfl,rfl,hj,hO,hOl⟩
 refine Jz 6 ?_
 refine Jcp rfl ?_ ?_<;>intro k12
 obtain⟨v,hv⟩:=exg c.vers j om
 have hvl:=hvs v (mog hv)
 refine Jz 8 ?_
 refine Jal fun b5=>?_
 refine Jz 4 ?_
 refine To.one 2 rfl (ros Me v.A v.l) rfl (Ky hv _ Wl) (Jz 8 ?_)
 refine Cw (fun s g mz ρ Γ=>∃(Ao:OA) (qo:Nat) (O:List ByteArray) (k:Nat),ρ=[s 1,(3,vs Ao O qo),s 9,s 10,s 11,s 16,s 17,(18,nv k)]∧Γ=[g 2,g 3,g 4,g 0,rows aMb 9 1 Ao qo O]∧mz=v.l.length-k∧(k≤v.l.length)∧(hnames (c.vers.map Vs.pure)=((c.vers.drop (j+1)).map Vs.pure).foldl Uz (Uz O ((v.l.drop k).map Hd.pure)))∧(O.length≤3*j+k)) ⟨⟨Ao,qo,O,0,rfl,rfl,rfl,om,(by rw[hO,mdg _ hv];rfl),om⟩,sb⟩ ?_
 rintro mz _ _ ⟨Ao,qo,O,k,rfl,rfl,rfl,hk,hO1,hOl1⟩
 refine Jz 6 ?_
 refine Jcp rfl ?_ ?_<;>intro k19
 obtain⟨y,hy⟩:=exg v.l k om
 refine Jz 8 ?_
 refine Jal fun b7=>?_
 refine Jz 8 ?_
 refine Jvf (Tc Ao qo O y.name _ om rfl) rfl (ocs (Ht 5 rfl) (ocn _)) ?_
 refine Jz 3 ?_
 refine Ed rfl ?_ ?_<;>intro k26
 have hm:¬(y.pure).name∈O:=show¬y.name∈O from TM (k:=0) (by simpa using k26)
 refine Jz 4 ?_
 refine Eg [.string y.name] fun b30=>?_
 refine Jge rfl rfl rfl (Bg Ec (i:=6) (j:=0) (el:=y.name) rfl s37 rfl rfl rfl rfl rfl om om) ?_
 rintro _ _ ⟨A31,q31,rfl,rfl⟩
 refine Jz 9 ?_
 refine Cg ⟨⟨A31,q31,(O++[y.name]),k+1,rfl,rfl,rfl,om,(by rw[hO1,mdg _ hy,Uu,aEa hm];rfl),(by rw[lap];show O.length+1≤_;omega)⟩,sb⟩
 have hm:(y.pure).name∈O:=show y.name∈O from NN (k:=0) (by simpa using k26)
 refine Jz 8 ?_
 refine Cg ⟨⟨Ao,qo,O,k+1,rfl,rfl,rfl,om,(by rw[hO1,mdg _ hy,Uu,aEh hm]),om⟩,sb⟩
 refine Jz 11 ?_
 refine Cg ⟨⟨Ao,qo,O,j+1,rfl,rfl,rfl,om,(by rw[hO1,aFh om];rfl),om⟩,sb⟩
 refine Jz 12 ?_
 refine Cu (Df (Du (Je1 results54 ?_)))
 exact⟨Ao,qo,by rw[hO,aFh om];rfl,by rw[hO,aFh om];rfl⟩
theorem NQ(F:Fl)(c:Cm)(C:Cp)(hC:C.Low F)(cb:Nat)(h:Hd)(hps:h.ps.length≤2)(hT:TyH F c h)(hG:xI F c C h)(Ax Ay:OA)(nx qx ny qy:Nat):
    Dz 92 [pv cb, .agg (Me h).toArray] [box cb (cF F [vs C.Ah C.hs C.qh,nv C.own,vs C.Av C.vn C.qv,vs C.At C.tn C.qt,vs C.Af C.fn C.qf, .slice Ax nx qx, .slice Ay ny qy]) 171,all (C.kids F),all (h.kids eX),Kn] (fun v Γ'=>∃(A:OA) (q:Nat),v= .agg (Sc (rA F c h A q)).toArray∧Γ'=[box cb (cF F [vs C.Ah C.hs C.qh,nv C.own,vs C.Av C.vn C.qv,vs C.At C.tn C.qt,vs C.Af C.fn C.qf,vs h.Ap h.ps h.qp,vs A (Gh F c h) q]) 171,rows Ins.cells 116 4 A q (Gh F c h),all (C.kids F)]):=by
 have hcl:=hG.len
 refine Am func92 ntmps92 fun w0=>?_
 refine Js (To.g (Jbo fun b3=>?_))
 refine Jal fun b4=>?_
 refine Jz 17 ?_
 have hC':(C.at h).Low F:=⟨by show h.ps.length≤12;omega,hC.v,hC.t,hC.f,hC.c,hC.h,hC.o,hC.each⟩
 have hce:[]++cB ((C.at h).cc F) (Ba h.body) ([]:List Ins).length=Gh F c h:=hG.eq
 have hcb:=NM F (C.at h) hC' cb c ⟨F.Af,F.qf,F.flags,c.Av,c.qv,c.vars,h.Ap,h.qp,h.ps⟩ h.Ab h.qb h.body none 0 [] hT.body (by rw[hce];omega)
 rw[hce]at hcb
 refine Cz (enc:=Ins.cells) (e:=116) (size:=4) (Db 5 rfl (lsG Bw Dh h.Ab h.body) (Dx _ _ _ _) (Rk (k:=eX)) (To.one 6 rfl (ros aMb h.Ap h.ps) rfl (fI (k:=eX)) (Db 6 rfl ((C.kids F).tail) (fun z hz=>Cp.lax F C z (List.mem_of_mem_tail hz)) (fun z hz=>List.mem_of_mem_tail hz) (Le (Dn (Jz 4 ?_))))))
 refine Jcf [5,2,0,0] (hcb) ?_
 rintro _ _ ⟨Ak,qk,rfl⟩
 refine Jz 8 ?_
 refine Jvf (iJ ((h.ps.length:Nat):Int) Ak qk (Gh F c h) om hG.form) rfl (ocs (Ht 1 rfl) (ocs (oca 7 rfl) (ocn _))) ?_
 refine Jz 8 ?_
 refine Jfw [] [0,3,4,5,6,101,2,107,8,509] (ocn _) ?_
 refine Jz 8 ?_
 refine Fw.f rfl (.bd [nv h.ps.length,iv ((Et (Gh F c h)).1),vs Ak (Gh F c h) qk]) ?_
 refine Fw.up rfl rfl rfl (Bl (i:=3) rfl rfl rfl r43 rfl rfl rfl (bta rfl)) (ocn _) ?_
 refine Jz 3 ?_
 refine Gf [0,0,3] results92 ?_
 exact⟨Ak,qk,rfl,rfl⟩
structure Stl where
 own:Nat
 A1:OA
 n1:Nat
 q1:Nat
 A2:OA
 n2:Nat
 q2:Nat
 A3:OA
 n3:Nat
 q3:Nat
 A4:OA
 n4:Nat
 q4:Nat
 A5:OA
 n5:Nat
 q5:Nat
def dZ(F:Fl)(Ah:OA)(hs:List HN):List Ai:=ros Va Ah hs::ros Jl F.Ac F.comps::hs.map (fun h=>ros aMb h.A h.l)
theorem nP(F:Fl)(Ah:OA)(hs:List HN):Lax (dZ F Ah hs):=Lax.cons rfl (Lax.cons rfl (by rw[aP];exact Hm fun h _=>fM))
theorem vD{F:Fl}{Ah:OA}{hs:List HN}{i:Nat}{h:HN}(hh:hs[i]?=some h):ros aMb h.A h.l∈dZ F Ah hs:=aEb _ (aEb _ (aEv.2 ⟨h,mog hh,rfl⟩))
theorem NR{F:Fl}{Ah:OA}{hs:List HN}:ros Va Ah hs∈dZ F Ah hs:=aEd ..
theorem Xf{l:List Vr}{k:Nat}{y:Vr}(h:l[k]?=some y)(tab:Bool):Oa (l.take (k+1)) tab=Oa (l.take k) tab++(if decide (y.ty=3)==tab then [y.name]else []):=by
 rw[Cf h];unfold Oa
 rw[List.filter_append,aEq]
 congr 1
 cases e:decide (y.ty=3)==tab
 ·rw[List.filter_cons_of_neg (by simpa using e)];rfl
 ·rw[List.filter_cons_of_pos (by simpa using e)];rfl
theorem CG(l:List Vr)(tab:Bool):(Oa l tab).length≤l.length:=by unfold Oa;rw[aEg];exact List.length_filter_le ..
theorem GL(s:ByteArray)(o:Option Hd){l:List Hd}{m:Nat}{y:Hd}(h:l[m]?=some y):bY s o (l.take (m+1))=if y.name=s then some y else bY s o (l.take m):=by
 rw[Cf h];unfold bY;rw[List.foldl_append];rfl
theorem GM(s:ByteArray)(o:Option Hd){l:List Vs}{j:Nat}{v:Vs}(h:l[j]?=some v):Ei s o (l.take (j+1))=bY s (Ei s o (l.take j)) v.l:=by
 rw[Cf h];unfold Ei;rw[List.foldl_append];rfl
def UAt(F:Fl)(c:Cm)(u:PU)(b:Bool):Option Hd→Prop
 |none=>u=zPU∧b=false
 |some h=>b=true∧∃A q,u=rA F c h A q
structure aS(F:Fl)(c:Cm)(names:List ByteArray)(o:ByteArray→Option Hd)(U:List PU)(B:List Bool):Prop where
 u:U.length=names.length
 b:B.length=names.length
 at_:∀(k:Nat) (s:ByteArray),names[k]?=some s→∃u b,U[k]?=some u∧B[k]?=some b∧UAt F c u b (o s)
section
variable{F:Fl}{c:Cm}{names:List ByteArray}{o o':ByteArray→Option Hd}{U:List PU}{B:List Bool}
theorem aS.init:aS F c names (fun _=>none) (List.replicate names.length zPU) (List.replicate names.length false):=⟨aFu ..,aFu ..,fun k s h=>by
 have hk:=(aEc.1 h).1
 exact⟨zPU,false,by rw[List.getElem?_replicate,aEh hk],by rw[List.getElem?_replicate,aEh hk],rfl,rfl⟩⟩
theorem aS.congr(h:aS F c names o U B)(e:∀s,o' s=o s):aS F c names o' U B:=by
 obtain rfl:o'=o:=funext e
 exact h
theorem aS.step{nn m:Nat}{y:Hd}{A:OA}{q:Nat}(h:aS F c names o U B)(hn:names=nms 104 nn)(hnn:nn≤3)(hy:y.name=nm 104 m)(hm:m<nn)(e:∀s,o' s=if y.name=s then some y else o s):aS F c names o' (U.set m (rA F c y A q)) (B.set m true):=by
 have hln:names.length=nn:=by rw[hn,Dq]
 refine⟨by rw[aEj];exact h.u,by rw[aEj];exact h.b,fun k s hk=>?_⟩
 have hkl:=(aEc.1 hk).1
 have hs:s=nm 104 k:=by rw[hn,Ea om]at hk;exact(aEn hk).symm
 have hu:=h.u
 have hb:=h.b
 by_cases e1:m=k
 · subst e1
   refine⟨rA F c y A q,true,List.getElem?_set_self om,List.getElem?_set_self om,?_⟩
   rw[e,aEh (by rw[hy,hs])]
   exact⟨rfl,A,q,rfl⟩
 · obtain⟨u,b,h1,h2,h3⟩:=h.at_ k s hk
   refine⟨u,b,by rw[List.getElem?_set_ne e1];exact h1,by rw[List.getElem?_set_ne e1];exact h2,?_⟩
   rw[e,aEa (fun e2=>?_)]
   ·exact h3
   · rw[hy,hs]at e2
     exact e1 (Qd (by decide) (by decide) om om e2).2
end
def kT(F:Fl)(c:Cm)(names:List ByteArray)(us:List PV)(fs:List PB):Prop:=∀(i:Nat) (v:PV) (b:PB),us[i]?=some v→fs[i]?=some b→aS F c names (fun s=>Ei s none (c.vers.take (i+1))) v.l b.l
theorem kT.push{F:Fl}{c:Cm}{names:List ByteArray}{us:List PV}{fs:List PB}{j:Nat}{v:PV}{b:PB}(h:kT F c names us fs)(hu:us.length=j)(hf:fs.length=j)(hv:aS F c names (fun s=>Ei s none (c.vers.take (j+1))) v.l b.l):kT F c names (us++[v]) (fs++[b]):=fun i v' b' h1 h2=>by
 by_cases e:i<j
 · rw[aFj om]at h1 h2
   exact h i v' b' h1 h2
 · have hl:=(aEc.1 h1).1
   rw[lap]at hl
   have hl:i<us.length+1:=hl
   obtain rfl:i=j:=om
   rw[aFw om]at h1 h2
   rw[hu,aGj]at h1
   rw[hf,aGj]at h2
   obtain rfl:v=v':=by simpa using h1
   obtain rfl:b=b':=by simpa using h2
   exact hv
structure NS(F:Fl)(c:Cm)(p:PP):Prop where
 names:p.names=hnames (c.vers.map Vs.pure)
 ul:p.us.length=c.vers.length
 fl:p.fs.length=c.vers.length
 inv:kT F c p.names p.us p.fs
structure CmW(c:Cm)(nn:Nat):Prop where
 hn:hnames (c.vers.map Vs.pure)=nms 104 nn
 n3:nn≤3
 each:∀v∈c.vers,∀(m:Nat) (y:Hd),v.l[m]?=some y→y.name=nm 104 m∧m<nn
theorem cmW{F:Fl}(h:Ku F.pure){ci:Nat}{c:Cm}(hc:F.comps[ci]?=some c):∃nn,CmW c nn:=by
 obtain⟨ct,ar,ok⟩:=h.okC (Oo hc)
 have har:=ok.ok.each ar (mog ok.arr)
 refine⟨ar.length,ok.hn,har.2.1,fun v hv m y hy=>?_⟩
 have gv:=ok.vers v.pure (aEv.2 ⟨v,hv,rfl⟩)
 have gh:=gv.2.2 m y.pure (by show(v.l.map Hd.pure)[m]?=_;rw[aEp,hy];rfl)
 have hpl:v.pure.length=v.l.length:=aEg ..
 exact⟨gh.name,by have h2:=gv.2.1;have h3:m<v.l.length:=(aEc.1 hy).1;omega⟩
theorem TP{U:List PU}{m:Nat}{u:PU}:∀c∈kUs (U.set m u),c∈ros Ins.cells u.A u.l::kUs U:=fun c hc=>by
 obtain⟨u',hu,hc⟩:=aEy.1 hc
 obtain rfl:=aEr.1 hc
 rcases List.mem_or_eq_of_mem_set hu with h|rfl
 ·exact aEb _ (aEy.2 ⟨u',h,aEd ..⟩)
 ·exact aEd ..
section
variable{C:Cx}{ρ:Cb}{Γ:List Ai}{K:Act→World→Prop}
theorem CJ:∀(n:Nat),To C ρ (all (kUs (List.replicate n zPU))::Γ) K→To C ρ Γ K
 |0,k=>Ko k
 |n+1,k=>CJ n (Cz (enc:=Ins.cells) (e:=0) (size:=4) (Cq (Dn k)))
end
def ClR{α:Type}(enc:α→List Value)(t:TypeId)(size:Nat)(l:List α):Value→List Ai→Prop:=fun v Γ'=>∃(B:OA) (p:Nat),v=vs B l p∧Γ'=[rows enc t size B p l]
def kPB(b:PB):List Ai:=[ros Sd b.A b.l]
theorem vE(F:Fl)(hF:Ku F.pure)(hF0:Ol F)(ci:Nat)(c:Cm)(hc:F.comps[ci]?=some c)(hcg:c.Good)(hT:TyC F ci c)(nn:Nat)(hW:CmW c nn)(Ah:OA)(qh:Nat)(hs:List HN)(hn:HN)(hhn:hs[ci]?=some hn)(hnl:hn.l=nms 104 nn)(hhs:hs.map HN.l=F.comps.map fun c=>hnames (c.vers.map Vs.pure))(hh12:∀h∈hs,h.l.length≤12)(cb:Nat)(z:Stl):
    Dz 55 [pv cb,nv ci] [box cb (cF F [vs Ah hs qh,nv z.own, .slice z.A1 z.n1 z.q1, .slice z.A2 z.n2 z.q2, .slice z.A3 z.n3 z.q3, .slice z.A4 z.n4 z.q4, .slice z.A5 z.n5 z.q5]) 171,all (dZ F Ah hs),all (F.kids eX),Kn] (fun v Γ'=>∃(p:PP) (z':Stl),v= .agg (Xx p).toArray∧Γ'=[box cb (cF F [vs Ah hs qh,nv z'.own, .slice z'.A1 z'.n1 z'.q1, .slice z'.A2 z'.n2 z'.q2, .slice z'.A3 z'.n3 z'.q3, .slice z'.A4 z'.n4 z'.q4, .slice z'.A5 z'.n5 z'.q5]) 171,all p.kids]∧NS F c p):=by
 have hFf:=hF0.flags
 have hcv:=hcg.vars
 have hcn:=hcg.vers2
 refine Am func55 ntmps55 fun w0=>?_
 refine Js (To.g (Jal fun b4=>?_))
 refine Jz 3 ?_
 refine To.one 3 rfl (ros Jl F.Ac F.comps) rfl (Jc (k:=eX)) (Jz 9 ?_)
 refine Jal fun b5=>?_
 refine Jz 26 ?_
 refine To.one 5 rfl (ros Gx F.Af F.flags) rfl (Qh (k:=eX)) (Jz 11 ?_)
 refine Cz (enc:=aMb) (e:=9) (size:=1) (Cw (fun s g mz ρ Γ=>∃(Az:OA) (qz:Nat) (fl:List ByteArray) (j:Nat),ρ=[s 0,s 1,s 4,s 5,s 43,s 44,(45,nv j)]∧Γ=[box cb (cF F [vs Ah hs qh,nv ci,nz,nz,vs Az fl qz, .slice z.A4 z.n4 z.q4, .slice z.A5 z.n5 z.q5]) 171,g 4,g 2,g 6,g 7,Kn,g 1,rows aMb 9 1 Az qz fl]∧mz=F.flags.length-j∧(j≤F.flags.length)∧(fl=(F.flags.take j).map Fg.name)) ⟨⟨none,0,([]:List ByteArray),0,rfl,rfl,rfl,om,rfl⟩,sb⟩ ?_)
 rintro mz _ _ ⟨Az,qz,fl,j,rfl,rfl,rfl,hj,hfl⟩
 have hfll:fl.length=j:=by rw[hfl,aEg,aEe];omega
 refine Jz 6 ?_
 refine Jcp rfl ?_ ?_<;>intro k46
 obtain⟨y,hy⟩:=exg F.flags j om
 refine Jz 8 ?_
 refine Jal fun b7=>?_
 refine Jz 3 ?_
 refine Jfw [] [0,1,2,3,5,104,106,207,8508,9,10,511] (ocn _) ?_
 refine Jz 7 ?_
 refine Es [.string y.name] fun b56=>?_
 refine Fw.ge rfl rfl rfl rfl (Bg Ec (i:=9) (j:=0) (el:=y.name) rfl s37 rfl rfl rfl rfl rfl om om) ?_
 rintro _ _ ⟨A57,q57,rfl,rfl⟩
 refine⟨ocn _,?_⟩
 refine Jz 2 ?_
 refine Fw.up rfl rfl rfl (Up.store (i:=2) rfl rfl rfl c37 rfl rfl (bt1 rfl)) (ocn _) ?_
 refine Jz 8 ?_
 refine Cg ⟨⟨A57,q57,(fl++[y.name]),j+1,rfl,rfl,rfl,om,(by rw[Cf hy,aEq,hfl];rfl)⟩,sb⟩
 refine Jz 7 ?_
 refine To.one 4 rfl (ros Iy c.Av c.vars) rfl (Fj hc _ Rj) (Jz 8 ?_)
 refine Cz (enc:=aMb) (e:=9) (size:=1) (Cz (enc:=aMb) (e:=9) (size:=1) (Cw (fun s g mz ρ Γ=>∃(Av:OA) (qv:Nat) (vn:List ByteArray) (At:OA) (qt:Nat) (tn:List ByteArray) (k:Nat),ρ=[s 0,s 1,s 4,s 5,(62,vs c.Av c.vars c.qv),s 63,(64,nv k)]∧Γ=[box cb (cF F [vs Ah hs qh,nv ci,vs Av vn qv,vs At tn qt,vs Az fl qz, .slice z.A4 z.n4 z.q4, .slice z.A5 z.n5 z.q5]) 171,g 4,g 5,g 6,g 7,Kn,ros Iy c.Av c.vars,g 10,rows aMb 9 1 Av qv vn,rows aMb 9 1 At qt tn]∧mz=c.vars.length-k∧(k≤c.vars.length)∧(vn=Oa (c.vars.take k) false)∧(tn=Oa (c.vars.take k) true)) ⟨⟨none,0,([]:List ByteArray),none,0,([]:List ByteArray),0,rfl,rfl,rfl,om,rfl,rfl⟩,sb⟩ ?_))
 rintro mz _ _ ⟨Av,qv,vn,At,qt,tn,k,rfl,rfl,rfl,hk,hvn,htn⟩
 have hvl:=CG (c.vars.take k) false
 have htl:=CG (c.vars.take k) true
 rw[←hvn,aEe]at hvl
 rw[←htn,aEe]at htl
 refine Jz 6 ?_
 refine Jcp rfl ?_ ?_<;>intro k65
 obtain⟨y,hy⟩:=exg c.vars k om
 refine Jz 8 ?_
 refine Jal fun b9=>?_
 refine Jz 10 ?_
 refine Jcp rfl ?_ ?_<;>intro k70
 refine Jfw [] [0,1,2,3,5,104,106,207,8508,9,10,511] (ocn _) ?_
 refine Jz 7 ?_
 refine Es [.string y.name] fun b78=>?_
 refine Fw.ge rfl rfl rfl rfl (Bg Ec (i:=11) (j:=0) (el:=y.name) rfl s37 rfl rfl rfl rfl rfl om om) ?_
 rintro _ _ ⟨A79,q79,rfl,rfl⟩
 refine⟨ocn _,?_⟩
 refine Jz 2 ?_
 refine Fw.up rfl rfl rfl (Up.store (i:=2) rfl rfl rfl c37 rfl rfl (bt1 rfl)) (ocn _) ?_
 refine Jz 8 ?_
 refine Cg ⟨⟨Av,qv,vn,A79,q79,(tn++[y.name]),k+1,rfl,rfl,rfl,om,(by rw[Xf hy,←hvn,show(decide (y.ty=3)==false)=false from by rw[aEk om];rfl];exact(aEz _).symm),(by rw[Xf hy,←htn,show(decide (y.ty=3)==true)=true from by rw[aEk om];rfl];rfl)⟩,sb⟩
 refine Jfw [] [0,1,2,3,5,104,106,207,8508,9,10,511] (ocn _) ?_
 refine Jz 7 ?_
 refine Es [.string y.name] fun b89=>?_
 refine Fw.ge rfl rfl rfl rfl (Bg Ec (i:=10) (j:=0) (el:=y.name) rfl s37 rfl rfl rfl rfl rfl om om) ?_
 rintro _ _ ⟨A90,q90,rfl,rfl⟩
 refine⟨ocn _,?_⟩
 refine Jz 2 ?_
 refine Fw.up rfl rfl rfl (Up.store (i:=2) rfl rfl rfl c37 rfl rfl (bt1 rfl)) (ocn _) ?_
 refine Jz 8 ?_
 refine Cg ⟨⟨A90,q90,(vn++[y.name]),At,qt,tn,k+1,rfl,rfl,rfl,om,(by rw[Xf hy,←hvn,show(decide (y.ty=3)==false)=true from by rw[aEo om];rfl];rfl),(by rw[Xf hy,←htn,show(decide (y.ty=3)==true)=false from by rw[aEo om];rfl];exact(aEz _).symm)⟩,sb⟩
 refine Jz 6 ?_
 refine To.one 3 rfl (ros Va Ah hs) rfl (NR) (Jz 8 ?_)
 refine Jr (.bd [vs hn.A hn.l hn.q,nz,nz]) ?_
 refine Jal fun b10=>?_
 refine Jz 4 ?_
 have hflE:fl=F.flags.map Fg.name:=by rw[hfl,aEm om]
 have hvnE:vn=Oa c.vars false:=by rw[hvn,aEm om]
 have htnE:tn=Oa c.vars true:=by rw[htn,aEm om]
 refine Db 5 rfl (dZ F Ah hs) (nP F Ah hs) (fun z hz=>hz) (Ux (Cq (Dn (Pq (Cq (Dn (Ux (Cq (Dn (Cz (enc:=aMb) (e:=9) (size:=1) (Cq (Dn ?_))))))))))))
 have hCp:YI F ci c (⟨Ah,qh,hs,ci,Av,qv,vn,At,qt,tn,Az,qz,fl,none,0,[]⟩:Cp):=⟨hhs,rfl,hvnE,htnE,hflE⟩
 have hhl:=congrArg List.length hhs
 rw[aEg,aEg]at hhl
 have hFc:=hF0.comps
 have hCl:Cp.Low F (⟨Ah,qh,hs,ci,Av,qv,vn,At,qt,tn,Az,qz,fl,none,0,[]⟩:Cp):=⟨aEw _,by show vn.length≤12;omega,by show tn.length≤12;omega,by show fl.length≤12;omega,by omega,hhl,(aEc.1 hhn).1,hh12⟩
 have hnl3:hn.l.length≤3:=by rw[hnl,Dq];exact hW.n3
 refine Pp [] [⟨0,[],0⟩,⟨4,[],0⟩,⟨1,[],1⟩,⟨2,[],0⟩,⟨3,[],2⟩,⟨8,[3],0⟩,⟨5,[],1⟩,⟨6,[],0⟩,⟨7,[],2⟩,⟨9,[3,7],0⟩] mixed.h (by kernel_rfl) (ocn _) (Jz 4 ?_)
 refine Fw.mk rfl rfl rfl rfl rfl (Zl (enc:=Sc) (z:=zPU) (n:=hn.l.length) rfl (by decide) rfl WT rfl rfl om (by simp only[maxLen];omega)) ?_
 rintro _ _ ⟨b105,rfl,rfl⟩
 refine Jz 3 ?_
 refine Fw.mk rfl rfl rfl rfl rfl (dD (enc:=Sd) (z:=false) (n:=hn.l.length) rfl rfl s61 rfl rfl om (by simp only[maxLen];omega)) ?_
 rintro _ _ ⟨b109,rfl,rfl⟩
 refine Jz 5 ?_
 refine To.one 9 rfl (ros Ik c.An c.vers) rfl (Fj hc _ Lm) (Jz 8 ?_)
 refine Cz (enc:=kN) (e:=197) (size:=1) (Cz (enc:=dX) (e:=61) (size:=1) (Ko (Ko (CJ hn.l.length (Cw (fun u g mz ρ Γ=>∃(Ax:OA) (nx:Nat) (qx:Nat) (Ay:OA) (ny:Nat) (qy:Nat) (U:List PU) (B:List Bool) (us:List PV) (Au:OA) (qu:Nat) (fs:List PB) (Ag:OA) (qg:Nat) (j:Nat),ρ=[u 0,u 1,u 4,u 5,u 10,(11,vs (some ⟨b105,0,none⟩) U hn.l.length),(12,vs (some ⟨b109,0,none⟩) B hn.l.length),u 111,u 112,(113,nv j)]∧Γ=[box cb (cF F [vs Ah hs qh,nv ci,vs Av vn qv,vs At tn qt,vs Az fl qz, .slice Ax nx qx, .slice Ay ny qy]) 171,g 8,g 12,g 13,g 14,g 15,Kn,g 5,box b10 [vs hn.A hn.l hn.q,vs Au us qu,vs Ag fs qg] 183,rows Sc 43 3 (some ⟨b105,0,none⟩) hn.l.length U,rows Sd 4 1 (some ⟨b109,0,none⟩) hn.l.length B,all (kUs U),rows kN 197 1 Au qu us,rows dX 61 1 Ag qg fs,all (us.flatMap PV.kids),all (fs.flatMap kPB)]∧mz=c.vers.length-j∧(j≤c.vers.length)∧(us.length=j)∧(fs.length=j)∧(aS F c hn.l (fun s=>Ei s none (c.vers.take j)) U B)∧(kT F c hn.l us fs)) ⟨⟨_,_,_,_,_,_,(List.replicate hn.l.length zPU),(List.replicate hn.l.length false),([]:List PV),none,0,([]:List PB),none,0,0,rfl,rfl,rfl,om,rfl,rfl,aS.init,(fun i v b h=>by simp at h)⟩,sb⟩ ?_)))))
 rintro mz _ _ ⟨Ax,nx,qx,Ay,ny,qy,U,B,us,Au,qu,fs,Ag,qg,j,rfl,rfl,rfl,hj,hus,hfs,hI,hUs⟩
 have hUl:=hI.u
 have hBl:=hI.b
 refine Jz 6 ?_
 refine Jcp rfl ?_ ?_<;>intro k114
 obtain⟨v,hv⟩:=exg c.vers j om
 have hvm:=mog hv
 have hvg:=hcg.ver v hvm
 have hvl:=hvg.1
 refine Jz 8 ?_
 refine Jal fun b14=>?_
 refine Jz 5 ?_
 refine To.one 6 rfl (ros Me v.A v.l) rfl (Fj hc _ (Ky hv _ Wl)) (Jz 8 ?_)
 refine Cw (fun u g mz ρ Γ=>∃(Ax:OA) (nx:Nat) (qx:Nat) (Ay:OA) (ny:Nat) (qy:Nat) (U:List PU) (B:List Bool) (m:Nat),ρ=[u 0,u 1,u 4,u 5,u 10,(11,vs (some ⟨b105,0,none⟩) U hn.l.length),(12,vs (some ⟨b109,0,none⟩) B hn.l.length),u 111,u 112,u 118,u 119,(120,nv m),u 113]∧Γ=[box cb (cF F [vs Ah hs qh,nv ci,vs Av vn qv,vs At tn qt,vs Az fl qz, .slice Ax nx qx, .slice Ay ny qy]) 171,g 3,g 4,g 5,g 6,g 7,Kn,g 9,g 10,rows Sc 43 3 (some ⟨b105,0,none⟩) hn.l.length U,rows Sd 4 1 (some ⟨b109,0,none⟩) hn.l.length B,all (kUs U),g 14,g 15,g 16,g 17,g 0]∧mz=v.l.length-m∧(m≤v.l.length)∧(aS F c hn.l (fun s=>bY s (Ei s none (c.vers.take j)) (v.l.take m)) U B)) ⟨⟨Ax,nx,qx,Ay,ny,qy,U,B,0,rfl,rfl,rfl,om,hI⟩,sb⟩ ?_
 rintro mz _ _ ⟨Ax,nx,qx,Ay,ny,qy,U,B,m,rfl,rfl,rfl,hm,hI3⟩
 have hUl:=hI3.u
 have hBl:=hI3.b
 refine Jz 6 ?_
 refine Jcp rfl ?_ ?_<;>intro k121
 obtain⟨y,hy⟩:=exg v.l m om
 have hym:=mog hy
 obtain⟨hy1,hy2⟩:=hW.each v hvm m y hy
 have hyg:=hvg.2 y hym
 obtain⟨hd1,hd2,hd3⟩:=hT.hd j v hv m y hy
 have hG:=TN hF hc hCp hvm hym
 have hnn:hn.l.length=nn:=by rw[hnl,Dq]
 obtain⟨u0,b0,hu0,hb0,-⟩:=hI3.at_ m y.name (by rw[hnl,hy1];exact Ea hy2)
 refine Jz 8 ?_
 refine Jal fun b16=>?_
 refine Jz 4 ?_
 refine To.one 5 rfl (ros aMb hn.A hn.l) rfl (vD hhn) (Jz 5 ?_)
 refine Jvf (Kl hn.A hn.q hn.l y.name (some m) om (by rw[hnl,hy1,Tg (by decide) (by have:=hW.n3;omega) hy2 0,aFl])) rfl (ocs (oca 0 rfl) (ocn _)) ?_
 refine Jz 3 ?_
 refine Db 7 rfl (y.kids eX) (Hd.lax eX y) (fun z hz=>Fj hc _ (Ky hv _ (Ur hy _ hz))) (Px 9 rfl rfl (Jz 7 ?_))
 refine Jcf [4,4,1,0] (NQ F c (⟨Ah,qh,hs,ci,Av,qv,vn,At,qt,tn,Az,qz,fl,none,0,[]⟩:Cp) hCl cb y hyg.ps hd3 hG Ax Ay nx qx ny qy) ?_
 rintro _ _ ⟨Ak,qk,rfl,rfl⟩
 refine Jz 1 ?_
 refine To.u (Bl (i:=12) (us:=Sc (rA F c y Ak qk)) rfl rfl rfl r43 (aR.len _) rfl rfl (Ee aR (by decide) om)) ?_
 refine Jz 1 ?_
 refine To.u (Up.store (i:=13) rfl rfl rfl c4 rfl rfl (Ee kP (y:=true) (by decide) om)) ?_
 refine Jz 3 ?_
 refine rX (Jj (Cq (Dn (Db 0 rfl (kUs (U.set m (rA F c y Ak qk))) (fO _) TP (Jz 5 ?_)))))
 refine Ot [(0,pv cb),(1,nv ci),(4,pv b4),(5,pv b5),(10,pv b10),(11, .slice (some ⟨b105,0,none⟩) (U.set m (rA F c y Ak qk)).length hn.l.length),(12, .slice (some ⟨b109,0,none⟩) (B.set m true).length hn.l.length),(111,vs c.An c.vers c.qn),(112,nv c.vers.length),(118,vs v.A v.l v.q),(119,nv v.l.length),(120,nv ((m+1))),(113,nv j)] ⟨rfl,rfl,rfl,rfl,rfl,(congrArg (fun n=>some (Value.slice (some ⟨b105,0,none⟩) n hn.l.length)) aEj.symm),(congrArg (fun n=>some (Value.slice (some ⟨b109,0,none⟩) n hn.l.length)) aEj.symm),rfl,rfl,rfl,rfl,rfl,rfl,trivial⟩ (Iu (Er (Df (Pq (Pq (Pq (Pq (Pq (Pq (Pq (Pq (Pq (Pq (Pq (Jag (v.l.length-(m+1)) om ⟨y.Ap,y.ps.length,y.qp,Ak,((Gh F c y).length),qk,(U.set m (rA F c y Ak qk)),(B.set m true),m+1,rfl,rfl,rfl,om,(hI3.step hnl hW.n3 hy1 hy2 (fun s=>GL s _ hy))⟩)))))))))))))))
 refine Jz 5 ?_
 have hI2:aS F c hn.l (fun s=>Ei s none (c.vers.take (j+1))) U B:=hI3.congr (fun s=>by rw[GM s none hv,show v.l.take m=v.l from aEm om])
 refine Ki (tel [(3,(ClR Sc 43 3 U)),(9,(ClR Sd 4 1 B))]) mixed.h (Hy 7 5 rfl (by kernel_rfl) ?_ ?_)
 refine Qy [] [⟨0,[],0⟩,⟨2,[],0⟩,⟨6,[],0⟩,⟨8,[],0⟩,⟨3,[],4⟩,⟨1,[],1⟩,⟨4,[3],2⟩,⟨5,[3,4],5⟩,⟨9,[],4⟩,⟨7,[],1⟩,⟨12,[],0⟩,⟨10,[9],2⟩,⟨11,[9,10],5⟩,⟨13,[],5⟩,⟨14,[],0⟩,⟨15,[],5⟩] (by kernel_rfl) rfl (ocn _) (Jz 4 ?_)
 refine Fw.tf (nN (some ⟨b105,0,none⟩) hn.l.length U om) (ocs (Ht 9 rfl) (ocn _)) (fun _ _ h=>by obtain⟨_,_,_,rfl⟩:=h;rfl) ?_
 rintro _ _ ⟨Bu,pu,rfl,rfl⟩
 refine Jz 1 ?_
 refine Es [vs Bu U pu] fun b143=>?_
 refine Fw.ge rfl rfl rfl rfl (Bg uY (i:=14) (j:=0) (el:=(⟨Bu,pu,U⟩:PV)) rfl aAl rfl rfl rfl rfl rfl om om) ?_
 rintro _ _ ⟨A144,q144,rfl,rfl⟩
 refine⟨ocn _,?_⟩
 refine Fw.tf (nO (some ⟨b109,0,none⟩) hn.l.length B om) (ocs (Ht 12 rfl) (ocn _)) (fun _ _ h=>by obtain⟨_,_,_,rfl⟩:=h;rfl) ?_
 rintro _ _ ⟨Bb,pb,rfl,rfl⟩
 refine Jz 2 ?_
 refine Es [vs Bb B pb] fun b149=>?_
 refine Fw.ge rfl rfl rfl rfl (Bg uZ (i:=17) (j:=0) (el:=(⟨Bb,pb,B⟩:PB)) rfl aAn rfl rfl rfl rfl rfl om om) ?_
 rintro _ _ ⟨A150,q150,rfl,rfl⟩
 refine⟨ocn _,?_⟩
 refine Fw.up rfl rfl rfl (Up.store (i:=12) rfl rfl rfl aAk rfl rfl (bt1 rfl)) (ocn _) ?_
 refine Jz 1 ?_
 refine Fw.up rfl rfl rfl (Up.store (i:=12) rfl rfl rfl aAm rfl rfl (bt1 rfl)) (ocn _) ?_
 refine Jz 3 ?_
 refine Db 15 rfl (kUs U) (fO _) (fun z hz=>hz) (rY (Le (Nz (Cq (Dn (Xv (f:=PV.kids) us (⟨Bu,pu,U⟩:PV) (zN (Ic (Cq (aF (Xv (f:=kPB) fs (⟨Bb,pb,B⟩:PB) (Jz 5 ?_))))))))))))
 refine Cg ⟨⟨Ax,nx,qx,Ay,ny,qy,U,B,(us++[(⟨Bu,pu,U⟩:PV)]),A144,q144,(fs++[(⟨Bb,pb,B⟩:PB)]),A150,q150,j+1,rfl,rfl,rfl,om,(by rw[lap,hus];rfl),(by rw[lap,hfs];rfl),hI2,(kT.push hUs hus hfs hI2)⟩,sb⟩
 refine Qy [] [⟨0,[],0⟩,⟨2,[],0⟩,⟨6,[],0⟩,⟨8,[],0⟩,⟨3,[],4⟩,⟨1,[],1⟩,⟨4,[3],2⟩,⟨7,[],1⟩,⟨5,[3,4],5⟩,⟨12,[],0⟩,⟨9,[],4⟩,⟨10,[9],2⟩,⟨11,[9,10],5⟩,⟨13,[],5⟩,⟨14,[],0⟩,⟨15,[],5⟩] (by kernel_rfl) rfl (ocn _) (Jz 4 ?_)
 refine Fw.tf (nN (some ⟨b105,0,none⟩) hn.l.length U om) (ocs (Ht 9 rfl) (ocn _)) (fun _ _ h=>by obtain⟨_,_,_,rfl⟩:=h;rfl) ?_
 rintro _ _ ⟨Bu,pu,rfl,rfl⟩
 refine Jz 1 ?_
 refine Es [vs Bu U pu] fun b143=>?_
 refine Jz 1 ?_
 refine Fw.ge rfl rfl rfl rfl (Bg uY (i:=14) (j:=0) (el:=(⟨Bu,pu,U⟩:PV)) rfl aAl rfl rfl rfl rfl rfl om om) ?_
 rintro _ _ ⟨A144,q144,rfl,rfl⟩
 refine⟨ocn _,?_⟩
 refine Jz 1 ?_
 refine Fw.tf (nO (some ⟨b109,0,none⟩) hn.l.length B om) (ocs (Ht 12 rfl) (ocn _)) (fun _ _ h=>by obtain⟨_,_,_,rfl⟩:=h;rfl) ?_
 rintro _ _ ⟨Bb,pb,rfl,rfl⟩
 refine Es [vs Bb B pb] fun b149=>?_
 refine Fw.ge rfl rfl rfl rfl (Bg uZ (i:=17) (j:=0) (el:=(⟨Bb,pb,B⟩:PB)) rfl aAn rfl rfl rfl rfl rfl om om) ?_
 rintro _ _ ⟨A150,q150,rfl,rfl⟩
 refine⟨ocn _,?_⟩
 refine Fw.up rfl rfl rfl (Up.store (i:=12) rfl rfl rfl aAk rfl rfl (bt1 rfl)) (ocn _) ?_
 refine Jz 1 ?_
 refine Fw.up rfl rfl rfl (Up.store (i:=12) rfl rfl rfl aAm rfl rfl (bt1 rfl)) (ocn _) ?_
 refine Jz 3 ?_
 refine Db 15 rfl (kUs U) (fO _) (fun z hz=>hz) (rY (Le (Nz (Cq (Dn (Xv (f:=PV.kids) us (⟨Bu,pu,U⟩:PV) (zN (Ic (Cq (aF (Xv (f:=kPB) fs (⟨Bb,pb,B⟩:PB) (Jz 5 ?_))))))))))))
 refine Cg ⟨⟨Ax,nx,qx,Ay,ny,qy,U,B,(us++[(⟨Bu,pu,U⟩:PV)]),A144,q144,(fs++[(⟨Bb,pb,B⟩:PB)]),A150,q150,j+1,rfl,rfl,rfl,om,(by rw[lap,hus];rfl),(by rw[lap,hfs];rfl),hI2,(kT.push hUs hus hfs hI2)⟩,sb⟩
 refine Jz 12 ?_
 refine mD (mD (Kq (rX (Cq (Dn (zM (Cq (Dn (To.one 5 rfl (ros aMb hn.A hn.l) rfl (vD hhn) (Le (Le (Dn (Gf [1,0] results55 ?_)))))))))))))
 exact⟨(⟨hn.A,hn.q,hn.l,Au,qu,us,Ag,qg,fs⟩:PP),(⟨ci,Av,vn.length,qv,At,tn.length,qt,Az,fl.length,qz,Ax,nx,qx,Ay,ny,qy⟩:Stl),rfl,rfl,⟨hnl.trans hW.hn.symm,by show us.length=_;omega,by show fs.length=_;omega,hUs⟩⟩
end Go.Proofs.YtlihklladkagpaaGreatDoor

/- Own text. -/
import Derived.Test.YtlihklladkagpaaGreatDoorW3
import Derived.Test.YtlihklladkagpaaGreatDoorH5
set_option linter.unusedVariables false
set_option linter.unusedSimpArgs false
set_option maxHeartbeats 2000000
set_option maxRecDepth 100000
namespace Go.Proofs.YtlihklladkagpaaGreatDoor
open Go.Proofs.Tryz
open Go.RowKit Go.Flow Go.Mem Go.Sep Go.In
theorem CF{s:ByteArray}:∀{l:List ByteArray} {k:Nat},s∈l→(ixF s k l).isSome=true
 |[],_,h=>by cases h
 | x ::r,k,h=>by
   by_cases hx:x=s
   ·rw[ixF,aEh hx];rfl
   · rw[ixF,aEa hx]
     rcases aEi.1 h with h|h
     ·exact absurd h.symm hx
     ·exact CF h
theorem TM{s:ByteArray}{l:List ByteArray}{k:Nat}(h:(ixF s k l).isSome=false):s∉l:=fun hm=>by rw[CF hm]at h;cases h
theorem NN{s:ByteArray}:∀{l:List ByteArray} {k:Nat},(ixF s k l).isSome=true→s∈l
 |[],_,h=>by cases h
 | x::r,k,h=>by
   by_cases hx:x=s
   ·rw[hx];exact aEd ..
   ·rw[ixF,aEa hx]at h;exact aEb _ (NN h)
def Cp.at(C:Cp)(h:Hd):Cp:={C with Ap:=h.Ap,qp:=h.qp,ps:=h.ps}
structure YI(F:Fl)(ci:Nat)(c:Cm)(C:Cp):Prop where
 hs:C.hs.map HN.l=F.comps.map fun c=>hnames (c.vers.map Vs.pure)
 own:C.own=ci
 vn:C.vn=Oa c.vars false
 tn:C.tn=Oa c.vars true
 fn:C.fn=F.flags.map Fg.name
theorem aCe{F:Fl}{ci:Nat}{c:Cm}{C:Cp}(h:YI F ci c C)(x:Hd):(C.at x).cc F=ccP F.pure ci c.vars x.ps:=by
 have e1:F.pure.comps.map PC.name=F.comps.map Cm.name:=by show(F.comps.map Cm.pure).map PC.name=_;rw[aGr];rfl
 have e2:(F.pure.comps.map fun c=>hnames c.vers)=C.hs.map HN.l:=by rw[h.hs];show(F.comps.map Cm.pure).map _=_;rw[aGr];rfl
 have e3:F.pure.flags=F.flags:=rfl
 unfold Cp.cc ccP
 simp only[uX,Cp.at,h.vn,h.tn,h.fn,h.own,e1,e2,e3]
 rfl
abbrev aCf(F:Fl)(ci:Nat)(c:Cm)(x:Hd):List Ins:=cB (ccP F.pure ci c.vars x.ps) (Ba x.body) 0
theorem NP{F:Fl}(h:Ku F.pure){ci:Nat}{c:Cm}(hc:F.comps[ci]?=some c){v:Vs}(hv:v∈c.vers){x:Hd}(hx:x∈v.l):aCf F ci c x=Gh F c x:=by
 obtain⟨ct,ar,ok⟩:=h.okC (Oo hc)
 have hgv:=ok.vers v.pure (aEv.2 ⟨v,hv,rfl⟩)
 obtain⟨k,hk⟩:=aFt hx
 have gh:=hgv.2.2 k x.pure (by show(v.l.map Hd.pure)[k]?=_;rw[aEp,hk];rfl)
 obtain⟨np,hnp,hps,hst⟩:=gh.ps
 have hnp2:np≤2:=(ok.ok.each ar (mog ok.arr)).2.2 np (mog hnp)
 have hps:x.ps=nms 112 np:=hps
 have hst:∀s∈Ba x.body,StE ct np 3 s:=hst
 show cB (ccP F.pure ci c.vars x.ps) _ 0=cB (ccR F.pure c.name c.vars x.ps) _ 0
 rw[hps]
 exact Uv _ _ fun s hs p=>(hst s hs).same (ok.isP hnp2) (ok.isR hnp2) p
structure xI(F:Fl)(c:Cm)(C:Cp)(x:Hd):Prop where
 eq:cB ((C.at x).cc F) (Ba x.body) 0=Gh F c x
 ps:x.ps.length≤2
 len:(Gh F c x).length≤3816
 form:∀i∈Gh F c x,Gn ((x.ps.length:Nat):Int) (Gh F c x).length i=true
theorem TN{F:Fl}(h:Ku F.pure){ci:Nat}{c:Cm}(hc:F.comps[ci]?=some c){C:Cp}(hC:YI F ci c C){v:Vs}(hv:v∈c.vers){x:Hd}(hx:x∈v.l):xI F c C x:=by
 have g:=Xe h hc hv hx
 have hp:=g.ps
 exact⟨by rw[aCe hC];exact NP h hc hv hx,g.ps,g.len,fun i hi=>by rw[←AO om];exact g.form i hi⟩
def rA(F:Fl)(c:Cm)(x:Hd)(A:OA)(q:Nat):PU:=⟨x.ps.length,(Et (Gh F c x)).1,A,q,Gh F c x⟩
theorem kS{Γ:List Ai}{w:World}{α:Type}{enc:α→List Value}{size:Nat}(E:Enc enc size)(hp:0<size){A:OA}{l:List α}(hA:A.isNone=true)(i:Nat)(h:Γ[i]?=some (ros enc A l))(hs:sat Γ w):l=[]:=by
 cases hl:l with
 |nil=>rfl
 | cons x r=>
   have:=rR E hp (A:=A) (l:=l) (by rw[hl];simp) i h hs
   rw[hA]at this;cases this
theorem GJ(A:OA)(q:Nat)(l:List Ins)(hl:l.length≤1000000):
    Dz 57 [vs A l q] [ros Ins.cells A l] (fun v Γ'=>∃B p,v=vs B l p∧Γ'=[rows Ins.cells 116 4 B p l]):=by
 refine Am func57 ntmps57 fun w0=>?_
 refine Jz 9 ?_
 refine Jr (Cr (v':= .bool A.isNone) rfl (Tp (A:=A) rfl underlying41 rfl rfl)) ?_
 refine Jn (Jt (Ed rfl (fun c4=>?_) (fun c4=>?_)))
 refine Js (Lt (p:=l=[]) (fun w hw=>kS Zp (by decide) c4 0 rfl hw) (fun hl0=>?_))
 subst hl0
 refine Cz (enc:=Ins.cells) (e:=116) (size:=4) (Jz 6 ?_)
 refine Ce [0] rfl (Je1 results57 ?_)
 exact⟨_,_,rfl,rfl⟩
 refine Jz 4 ?_
 refine Jmk rfl rfl rfl (Hg (enc:=Ins.cells) rfl s41) ?_
 rintro _ _ ⟨A5,rfl,rfl⟩
 refine Jm ?_
 refine Jge rfl rfl rfl (Hf Zp (i:=0) (m:=l) rfl s41 rfl rfl rfl (Ya (i:=1) rfl) om om) ?_
 rintro _ _ ⟨A7,q7,rfl,rfl⟩
 refine Jz 4 ?_
 refine Ce [0] rfl (Je1 results57 ?_)
 exact⟨_,_,rfl,rfl⟩
theorem nN(A:OA)(q:Nat)(l:List PU)(hl:l.length≤1000000):
    Dz 93 [vs A l q] [ros Sc A l] (fun v Γ'=>∃B p,v=vs B l p∧Γ'=[rows Sc 43 3 B p l]):=by
 refine Am func93 ntmps93 fun w0=>?_
 refine Jz 9 ?_
 refine Jr (Cr (v':= .bool A.isNone) rfl (Tp (A:=A) rfl underlying197 rfl rfl)) ?_
 refine Jn (Jt (Ed rfl (fun c4=>?_) (fun c4=>?_)))
 refine Js (Lt (p:=l=[]) (fun w hw=>kS aR (by decide) c4 0 rfl hw) (fun hl0=>?_))
 subst hl0
 refine Cz (enc:=Sc) (e:=43) (size:=3) (Jz 6 ?_)
 refine Ce [0] rfl (Je1 results93 ?_)
 exact⟨_,_,rfl,rfl⟩
 refine Jz 4 ?_
 refine Jmk rfl rfl rfl (Hg (enc:=Sc) rfl WT) ?_
 rintro _ _ ⟨A5,rfl,rfl⟩
 refine Jm ?_
 refine Jge rfl rfl rfl (Hf aR (i:=0) (m:=l) rfl WT rfl rfl rfl (Ya (i:=1) rfl) om om) ?_
 rintro _ _ ⟨A7,q7,rfl,rfl⟩
 refine Jz 4 ?_
 refine Ce [0] rfl (Je1 results93 ?_)
 exact⟨_,_,rfl,rfl⟩
theorem nO(A:OA)(q:Nat)(l:List Bool)(hl:l.length≤1000000):
    Dz 94 [vs A l q] [ros Sd A l] (fun v Γ'=>∃B p,v=vs B l p∧Γ'=[rows Sd 4 1 B p l]):=by
 refine Am func94 ntmps94 fun w0=>?_
 refine Jz 9 ?_
 refine Jr (Cr (v':= .bool A.isNone) rfl (Tp (A:=A) rfl underlying61 rfl rfl)) ?_
 refine Jn (Jt (Ed rfl (fun c4=>?_) (fun c4=>?_)))
 refine Js (Lt (p:=l=[]) (fun w hw=>kS kP (by decide) c4 0 rfl hw) (fun hl0=>?_))
 subst hl0
 refine Cz (enc:=Sd) (e:=4) (size:=1) (Jz 6 ?_)
 refine Ce [0] rfl (Je1 results94 ?_)
 exact⟨_,_,rfl,rfl⟩
 refine Jz 4 ?_
 refine Jmk rfl rfl rfl (Hg (enc:=Sd) rfl s61) ?_
 rintro _ _ ⟨A5,rfl,rfl⟩
 refine Jm ?_
 refine Jge rfl rfl rfl (Hf kP (i:=0) (m:=l) rfl s61 rfl rfl rfl (Ya (i:=1) rfl) om om) ?_
 rintro _ _ ⟨A7,q7,rfl,rfl⟩
 refine Jz 4 ?_
 refine Ce [0] rfl (Je1 results94 ?_)
 exact⟨_,_,rfl,rfl⟩
theorem GK(c:Cm)(hcv:c.vers.length≤2)(hvs:∀v∈c.vers,v.l.length≤3):
    Dz 54 [.agg (cX c []).toArray] [all (c.kids eX)] (fun v Γ'=>∃(A:OA) (q:Nat),v= .slice A (hnames (c.vers.map Vs.pure)).length q∧Γ'=[rows encZ 9 1 A q (hnames (c.vers.map Vs.pure))]):=by
 refine Am func54 ntmps54 fun w0=>?_
 refine Js (To.g (Jbo fun b1=>?_))
 refine Jz 10 ?_
 refine To.one 1 rfl (ros Ik c.An c.vers) rfl (Lm (k:=eX)) (Jz 8 ?_)
 refine Cz (enc:=encZ) (e:=9) (size:=1) (Cw (fun s g mz ρ Γ=>∃(Ao:OA) (qo:Nat) (O:List ByteArray) (j:Nat),ρ=[s 1,(3,vs Ao O qo),s 9,s 10,(11,nv j)]∧Γ=[g 2,g 3,g 1,rows encZ 9 1 Ao qo O]∧mz=c.vers.length-j∧(j≤c.vers.length)∧(hnames (c.vers.map Vs.pure)=((c.vers.drop j).map Vs.pure).foldl Uz O)∧(O.length≤3*j)) ⟨⟨none,0,([]:List ByteArray),0,rfl,rfl,rfl,om,rfl,om⟩,sb⟩ ?_)
 rintro mz _ _ ⟨Ao,qo,O,j,rfl,rfl,rfl,hj,hO,hOl⟩
 refine Jz 6 ?_
 refine Jcp rfl ?_ ?_<;>intro k12
 obtain⟨v,hv⟩:=exg c.vers j om
 have hvl:=hvs v (mog hv)
 refine Jz 8 ?_
 refine Jal fun b5=>?_
 refine Jz 4 ?_
 refine To.one 2 rfl (ros Me v.A v.l) rfl (Ky hv _ Wl) (Jz 8 ?_)
 refine Cw (fun s g mz ρ Γ=>∃(Ao:OA) (qo:Nat) (O:List ByteArray) (k:Nat),ρ=[s 1,(3,vs Ao O qo),s 9,s 10,s 11,s 16,s 17,(18,nv k)]∧Γ=[g 2,g 3,g 4,g 0,rows encZ 9 1 Ao qo O]∧mz=v.l.length-k∧(k≤v.l.length)∧(hnames (c.vers.map Vs.pure)=((c.vers.drop (j+1)).map Vs.pure).foldl Uz (Uz O ((v.l.drop k).map Hd.pure)))∧(O.length≤3*j+k)) ⟨⟨Ao,qo,O,0,rfl,rfl,rfl,om,(by rw[hO,mdg _ hv];rfl),om⟩,sb⟩ ?_
 rintro mz _ _ ⟨Ao,qo,O,k,rfl,rfl,rfl,hk,hO1,hOl1⟩
 refine Jz 6 ?_
 refine Jcp rfl ?_ ?_<;>intro k19
 obtain⟨y,hy⟩:=exg v.l k om
 refine Jz 8 ?_
 refine Jal fun b7=>?_
 refine Jz 8 ?_
 refine Jvf (Tc Ao qo O y.name _ om rfl) rfl (ocs (Ht 5 rfl) (ocn _)) ?_
 refine Jz 3 ?_
 refine Ed rfl ?_ ?_<;>intro k26
 have hm:¬(y.pure).name∈O:=show¬y.name∈O from TM (k:=0) (by simpa using k26)
 refine Jz 4 ?_
 refine Eg [.string y.name] fun b30=>?_
 refine Jge rfl rfl rfl (Bg Ec (i:=6) (j:=0) (el:=y.name) rfl s37 rfl rfl rfl rfl rfl om om) ?_
 rintro _ _ ⟨A31,q31,rfl,rfl⟩
 refine Jz 9 ?_
 refine Cg ⟨⟨A31,q31,(O++[y.name]),k+1,rfl,rfl,rfl,om,(by rw[hO1,mdg _ hy,Uu,aEa hm];rfl),(by rw[lap];show O.length+1≤_;omega)⟩,sb⟩
 have hm:(y.pure).name∈O:=show y.name∈O from NN (k:=0) (by simpa using k26)
 refine Jz 8 ?_
 refine Cg ⟨⟨Ao,qo,O,k+1,rfl,rfl,rfl,om,(by rw[hO1,mdg _ hy,Uu,aEh hm]),om⟩,sb⟩
 refine Jz 11 ?_
 refine Cg ⟨⟨Ao,qo,O,j+1,rfl,rfl,rfl,om,(by rw[hO1,aFh om];rfl),om⟩,sb⟩
 refine Jz 12 ?_
 refine Cu (Df (Du (Je1 results54 ?_)))
 exact⟨Ao,qo,by rw[hO,aFh om];rfl,by rw[hO,aFh om];rfl⟩
theorem NQ(F:Fl)(c:Cm)(C:Cp)(hC:C.Low F)(cb:Nat)(h:Hd)(hps:h.ps.length≤2)(hT:TyH F c h)(hG:xI F c C h)(Ax Ay:OA)(nx qx ny qy:Nat):
    Dz 92 [pv cb, .agg (Me h).toArray] [box cb (cF F [vs C.Ah C.hs C.qh,nv C.own,vs C.Av C.vn C.qv,vs C.At C.tn C.qt,vs C.Af C.fn C.qf, .slice Ax nx qx, .slice Ay ny qy]) 171,all (C.kids F),all (h.kids eX),Kn] (fun v Γ'=>∃(A:OA) (q:Nat),v= .agg (Sc (rA F c h A q)).toArray∧Γ'=[box cb (cF F [vs C.Ah C.hs C.qh,nv C.own,vs C.Av C.vn C.qv,vs C.At C.tn C.qt,vs C.Af C.fn C.qf,vs h.Ap h.ps h.qp,vs A (Gh F c h) q]) 171,rows Ins.cells 116 4 A q (Gh F c h),all (C.kids F)]):=by
 have hcl:=hG.len
 refine Am func92 ntmps92 fun w0=>?_
 refine Js (To.g (Jbo fun b3=>?_))
 refine Jal fun b4=>?_
 refine Jz 17 ?_
 have hC':(C.at h).Low F:=⟨by show h.ps.length≤12;omega,hC.v,hC.t,hC.f,hC.c,hC.h,hC.o,hC.each⟩
 have hce:[]++cB ((C.at h).cc F) (Ba h.body) ([]:List Ins).length=Gh F c h:=hG.eq
 have hcb:=NM F (C.at h) hC' cb c ⟨F.Af,F.qf,F.flags,c.Av,c.qv,c.vars,h.Ap,h.qp,h.ps⟩ h.Ab h.qb h.body none 0 [] hT.body (by rw[hce];omega)
 rw[hce]at hcb
 refine Cz (enc:=Ins.cells) (e:=116) (size:=4) (Db 5 rfl (lsG Bw Dh h.Ab h.body) (Dx _ _ _ _) (Rk (k:=eX)) (To.one 6 rfl (ros encZ h.Ap h.ps) rfl (fI (k:=eX)) (Db 6 rfl ((C.kids F).tail) (fun z hz=>Cp.lax F C z (List.mem_of_mem_tail hz)) (fun z hz=>List.mem_of_mem_tail hz) (Le (Dn (Jz 4 ?_))))))
 refine Jcf [5,2,0,0] (hcb) ?_
 rintro _ _ ⟨Ak,qk,rfl⟩
 refine Jz 8 ?_
 refine Jvf (iJ ((h.ps.length:Nat):Int) Ak qk (Gh F c h) om hG.form) rfl (ocs (Ht 1 rfl) (ocs (oca 7 rfl) (ocn _))) ?_
 refine Jz 8 ?_
 refine Jfw [] [0,3,4,5,6,101,2,107,8,509] (ocn _) ?_
 refine Jz 8 ?_
 refine Fw.f rfl (.bd [nv h.ps.length,iv ((Et (Gh F c h)).1),vs Ak (Gh F c h) qk]) ?_
 refine Fw.up rfl rfl rfl (Bl (i:=3) rfl rfl rfl r43 rfl rfl rfl (bta rfl)) (ocn _) ?_
 refine Jz 3 ?_
 refine Gf [0,0,3] results92 ?_
 exact⟨Ak,qk,rfl,rfl⟩
end Go.Proofs.YtlihklladkagpaaGreatDoor

/- Own text. -/
import Derived.Test.YtlihklladkagpaaGreatDoorW3
import Derived.Test.YtlihklladkagpaaGreatDoorH5
set_option linter.unusedVariables false
set_option linter.unusedSimpArgs false
set_option maxHeartbeats 2000000
set_option maxRecDepth 100000
namespace Go.Proofs.YtlihklladkagpaaGreatDoor
open Go.Proofs.Tryz
open Go.RowKit Go.Flow Go.Mem Go.Sep Go.In
theorem ixF_mem{s:ByteArray}:∀{l:List ByteArray} {k:Nat},s∈l→(ixF s k l).isSome=true
 |[],_,h=>by cases h
 | x ::r,k,h=>by
   by_cases hx:x=s
   ·rw[ixF,if_pos hx];rfl
   · rw[ixF,if_neg hx]
     rcases List.mem_cons.1 h with h|h
     ·exact absurd h.symm hx
     ·exact ixF_mem h
theorem ixF_not{s:ByteArray}{l:List ByteArray}{k:Nat}(h:(ixF s k l).isSome=false):s∉l:=fun hm=>by rw[ixF_mem hm]at h;cases h
theorem ixF_in{s:ByteArray}:∀{l:List ByteArray} {k:Nat},(ixF s k l).isSome=true→s∈l
 |[],_,h=>by cases h
 | x::r,k,h=>by
   by_cases hx:x=s
   ·rw[hx];exact List.mem_cons_self ..
   ·rw[ixF,if_neg hx]at h;exact List.mem_cons_of_mem _ (ixF_in h)
def Cp.at(C:Cp)(h:Hd):Cp:={C with Ap:=h.Ap,qp:=h.qp,ps:=h.ps}
structure CpOk(F:Fl)(ci:Nat)(c:Cm)(C:Cp):Prop where
 hs:C.hs.map HN.l=F.comps.map fun c=>hnames (c.vers.map Vs.pure)
 own:C.own=ci
 vn:C.vn=varN c.vars false
 tn:C.tn=varN c.vars true
 fn:C.fn=F.flags.map Fg.name
theorem cc_eq{F:Fl}{ci:Nat}{c:Cm}{C:Cp}(h:CpOk F ci c C)(x:Hd):(C.at x).cc F=ccP F.pure ci c.vars x.ps:=by
 have e1:F.pure.comps.map PC.name=F.comps.map Cm.name:=by show(F.comps.map Cm.pure).map PC.name=_;rw[List.map_map];rfl
 have e2:(F.pure.comps.map fun c=>hnames c.vers)=C.hs.map HN.l:=by rw[h.hs];show(F.comps.map Cm.pure).map _=_;rw[List.map_map];rfl
 have e3:F.pure.flags=F.flags:=rfl
 unfold Cp.cc ccP
 simp only[hnAt,Cp.at,h.vn,h.tn,h.fn,h.own,e1,e2,e3]
 rfl
abbrev codeP(F:Fl)(ci:Nat)(c:Cm)(x:Hd):List Ins:=cB (ccP F.pure ci c.vars x.ps) (St.pL x.body) 0
theorem codeP_eq{F:Fl}(h:GoodF F.pure){ci:Nat}{c:Cm}(hc:F.comps[ci]?=some c){v:Vs}(hv:v∈c.vers){x:Hd}(hx:x∈v.l):codeP F ci c x=codeR F c x:=by
 obtain⟨ct,ar,ok⟩:=h.okC (pure_comp hc)
 have hgv:=ok.vers v.pure (List.mem_map.2 ⟨v,hv,rfl⟩)
 obtain⟨k,hk⟩:=List.getElem?_of_mem hx
 have gh:=hgv.2.2 k x.pure (by show(v.l.map Hd.pure)[k]?=_;rw[List.getElem?_map,hk];rfl)
 obtain⟨np,hnp,hps,hst⟩:=gh.ps
 have hnp2:np≤2:=(ok.ok.each ar (mog ok.arr)).2.2 np (mog hnp)
 have hps:x.ps=nms 112 np:=hps
 have hst:∀s∈St.pL x.body,StE ct np 3 s:=hst
 show cB (ccP F.pure ci c.vars x.ps) _ 0=cB (ccR F.pure c.name c.vars x.ps) _ 0
 rw[hps]
 exact cB_same _ _ fun s hs p=>(hst s hs).same (ok.isP hnp2) (ok.isR hnp2) p
structure CodeOk(F:Fl)(c:Cm)(C:Cp)(x:Hd):Prop where
 eq:cB ((C.at x).cc F) (St.pL x.body) 0=codeR F c x
 ps:x.ps.length≤2
 len:(codeR F c x).length≤3816
 form:∀i∈codeR F c x,formedB ((x.ps.length:Nat):Int) (codeR F c x).length i=true
theorem code_ok{F:Fl}(h:GoodF F.pure){ci:Nat}{c:Cm}(hc:F.comps[ci]?=some c){C:Cp}(hC:CpOk F ci c C){v:Vs}(hv:v∈c.vers){x:Hd}(hx:x∈v.l):CodeOk F c C x:=by
 have g:=good_code h hc hv hx
 have hp:=g.ps
 exact⟨by rw[cc_eq hC];exact codeP_eq h hc hv hx,g.ps,g.len,fun i hi=>by rw[←form_eq om];exact g.form i hi⟩
def puOf(F:Fl)(c:Cm)(x:Hd)(A:OA)(q:Nat):PU:=⟨x.ps.length,(heightsV (codeR F c x)).1,A,q,codeR F c x⟩
theorem ros_nil0{Γ:List Chunk}{w:World}{α:Type}{enc:α→List Value}{size:Nat}(E:Enc enc size)(hp:0<size){A:OA}{l:List α}(hA:A.isNone=true)(i:Nat)(h:Γ[i]?=some (ros enc A l))(hs:sat Γ w):l=[]:=by
 cases hl:l with
 |nil=>rfl
 | cons x r=>
   have:=ros_some E hp (A:=A) (l:=l) (by rw[hl];simp) i h hs
   rw[hA]at this;cases this
theorem cloneI_fn(A:OA)(q:Nat)(l:List Ins)(hl:l.length≤1000000):
    Dz 57 [vs A l q] [ros Ins.cells A l] (fun v Γ'=>∃B p,v=vs B l p∧Γ'=[rows Ins.cells 116 4 B p l]):=by
 refine Does.en func57 ntmps57 fun w0=>?_
 refine Jz 9 ?_
 refine Jr (Rd.as (v':= .bool A.isNone) rfl (Rd.eqlSl (A:=A) rfl underlying41 rfl rfl)) ?_
 refine To.n (Jt (Jcond rfl (fun c4=>?_) (fun c4=>?_)))
 refine Js (Jknow (p:=l=[]) (fun w hw=>ros_nil0 encIn (by decide) c4 0 rfl hw) (fun hl0=>?_))
 subst hl0
 refine JnilRow (enc:=Ins.cells) (e:=116) (size:=4) (Jz 6 ?_)
 refine Jonly [0] rfl (Je1 results57 ?_)
 exact⟨_,_,rfl,rfl⟩
 refine Jz 4 ?_
 refine Jmk rfl rfl rfl (Mk.slice0R (enc:=Ins.cells) rfl s41) ?_
 rintro _ _ ⟨A5,rfl,rfl⟩
 refine Jm ?_
 refine Jge rfl rfl rfl (Ge.appendL encIn (i:=0) (m:=l) rfl s41 rfl rfl rfl (src_ro (i:=1) rfl) om om) ?_
 rintro _ _ ⟨A7,q7,rfl,rfl⟩
 refine Jz 4 ?_
 refine Jonly [0] rfl (Je1 results57 ?_)
 exact⟨_,_,rfl,rfl⟩
theorem cloneU_fn(A:OA)(q:Nat)(l:List PU)(hl:l.length≤1000000):
    Dz 93 [vs A l q] [ros encPU A l] (fun v Γ'=>∃B p,v=vs B l p∧Γ'=[rows encPU 43 3 B p l]):=by
 refine Does.en func93 ntmps93 fun w0=>?_
 refine Jz 9 ?_
 refine Jr (Rd.as (v':= .bool A.isNone) rfl (Rd.eqlSl (A:=A) rfl underlying197 rfl rfl)) ?_
 refine To.n (Jt (Jcond rfl (fun c4=>?_) (fun c4=>?_)))
 refine Js (Jknow (p:=l=[]) (fun w hw=>ros_nil0 encPU_ok (by decide) c4 0 rfl hw) (fun hl0=>?_))
 subst hl0
 refine JnilRow (enc:=encPU) (e:=43) (size:=3) (Jz 6 ?_)
 refine Jonly [0] rfl (Je1 results93 ?_)
 exact⟨_,_,rfl,rfl⟩
 refine Jz 4 ?_
 refine Jmk rfl rfl rfl (Mk.slice0R (enc:=encPU) rfl s197) ?_
 rintro _ _ ⟨A5,rfl,rfl⟩
 refine Jm ?_
 refine Jge rfl rfl rfl (Ge.appendL encPU_ok (i:=0) (m:=l) rfl s197 rfl rfl rfl (src_ro (i:=1) rfl) om om) ?_
 rintro _ _ ⟨A7,q7,rfl,rfl⟩
 refine Jz 4 ?_
 refine Jonly [0] rfl (Je1 results93 ?_)
 exact⟨_,_,rfl,rfl⟩
theorem cloneB_fn(A:OA)(q:Nat)(l:List Bool)(hl:l.length≤1000000):
    Dz 94 [vs A l q] [ros encBo A l] (fun v Γ'=>∃B p,v=vs B l p∧Γ'=[rows encBo 4 1 B p l]):=by
 refine Does.en func94 ntmps94 fun w0=>?_
 refine Jz 9 ?_
 refine Jr (Rd.as (v':= .bool A.isNone) rfl (Rd.eqlSl (A:=A) rfl underlying61 rfl rfl)) ?_
 refine To.n (Jt (Jcond rfl (fun c4=>?_) (fun c4=>?_)))
 refine Js (Jknow (p:=l=[]) (fun w hw=>ros_nil0 encBo_ok (by decide) c4 0 rfl hw) (fun hl0=>?_))
 subst hl0
 refine JnilRow (enc:=encBo) (e:=4) (size:=1) (Jz 6 ?_)
 refine Jonly [0] rfl (Je1 results94 ?_)
 exact⟨_,_,rfl,rfl⟩
 refine Jz 4 ?_
 refine Jmk rfl rfl rfl (Mk.slice0R (enc:=encBo) rfl s61) ?_
 rintro _ _ ⟨A5,rfl,rfl⟩
 refine Jm ?_
 refine Jge rfl rfl rfl (Ge.appendL encBo_ok (i:=0) (m:=l) rfl s61 rfl rfl rfl (src_ro (i:=1) rfl) om om) ?_
 rintro _ _ ⟨A7,q7,rfl,rfl⟩
 refine Jz 4 ?_
 refine Jonly [0] rfl (Je1 results94 ?_)
 exact⟨_,_,rfl,rfl⟩
theorem cnames_fn(c:Cm)(hcv:c.vers.length≤2)(hvs:∀v∈c.vers,v.l.length≤3):
    Dz 54 [.agg (cX c []).toArray] [all (c.kids eX)] (fun v Γ'=>∃(A:OA) (q:Nat),v= .slice A (hnames (c.vers.map Vs.pure)).length q∧Γ'=[rows encZ 9 1 A q (hnames (c.vers.map Vs.pure))]):=by
 refine Does.en func54 ntmps54 fun w0=>?_
 refine Js (To.g (Jbo fun b1=>?_))
 refine Jz 10 ?_
 refine To.one 1 rfl (ros encVs c.An c.vers) rfl (Cm.vers_k (k:=eX)) (Jz 8 ?_)
 refine JnilRow (enc:=encZ) (e:=9) (size:=1) (To.loP (fun s g mz ρ Γ=>∃(Ao:OA) (qo:Nat) (O:List ByteArray) (j:Nat),ρ=[s 1,(3,vs Ao O qo),s 9,s 10,(11,nv j)]∧Γ=[g 2,g 3,g 1,rows encZ 9 1 Ao qo O]∧mz=c.vers.length-j∧(j≤c.vers.length)∧(hnames (c.vers.map Vs.pure)=((c.vers.drop j).map Vs.pure).foldl hnAdd O)∧(O.length≤3*j)) ⟨⟨none,0,([]:List ByteArray),0,rfl,rfl,rfl,om,rfl,om⟩,sb⟩ ?_)
 rintro mz _ _ ⟨Ao,qo,O,j,rfl,rfl,rfl,hj,hO,hOl⟩
 refine Jz 6 ?_
 refine Jcp rfl ?_ ?_<;>intro k12
 obtain⟨v,hv⟩:=exg c.vers j om
 have hvl:=hvs v (mog hv)
 refine Jz 8 ?_
 refine Jal fun b5=>?_
 refine Jz 4 ?_
 refine To.one 2 rfl (ros encH v.A v.l) rfl (Cm.ver_k hv _ Vs.l_k) (Jz 8 ?_)
 refine To.loP (fun s g mz ρ Γ=>∃(Ao:OA) (qo:Nat) (O:List ByteArray) (k:Nat),ρ=[s 1,(3,vs Ao O qo),s 9,s 10,s 11,s 16,s 17,(18,nv k)]∧Γ=[g 2,g 3,g 4,g 0,rows encZ 9 1 Ao qo O]∧mz=v.l.length-k∧(k≤v.l.length)∧(hnames (c.vers.map Vs.pure)=((c.vers.drop (j+1)).map Vs.pure).foldl hnAdd (hnAdd O ((v.l.drop k).map Hd.pure)))∧(O.length≤3*j+k)) ⟨⟨Ao,qo,O,0,rfl,rfl,rfl,om,(by rw[hO,mdg _ hv];rfl),om⟩,sb⟩ ?_
 rintro mz _ _ ⟨Ao,qo,O,k,rfl,rfl,rfl,hk,hO1,hOl1⟩
 refine Jz 6 ?_
 refine Jcp rfl ?_ ?_<;>intro k19
 obtain⟨y,hy⟩:=exg v.l k om
 refine Jz 8 ?_
 refine Jal fun b7=>?_
 refine Jz 8 ?_
 refine Jvf (contains_fn Ao qo O y.name _ om rfl) rfl (ocs (oks_row 5 rfl) (ocn _)) ?_
 refine Jz 3 ?_
 refine Jcond rfl ?_ ?_<;>intro k26
 have hm:¬(y.pure).name∈O:=show¬y.name∈O from ixF_not (k:=0) (by simpa using k26)
 refine Jz 4 ?_
 refine To.sn [.string y.name] fun b30=>?_
 refine Jge rfl rfl rfl (Ge.append1 encZ_ok (i:=6) (j:=0) (el:=y.name) rfl s37 rfl rfl rfl rfl rfl om om) ?_
 rintro _ _ ⟨A31,q31,rfl,rfl⟩
 refine Jz 9 ?_
 refine To.agP ⟨⟨A31,q31,(O++[y.name]),k+1,rfl,rfl,rfl,om,(by rw[hO1,mdg _ hy,hnAdd_cons,if_neg hm];rfl),(by rw[lap];show O.length+1≤_;omega)⟩,sb⟩
 have hm:(y.pure).name∈O:=show y.name∈O from ixF_in (k:=0) (by simpa using k26)
 refine Jz 8 ?_
 refine To.agP ⟨⟨Ao,qo,O,k+1,rfl,rfl,rfl,om,(by rw[hO1,mdg _ hy,hnAdd_cons,if_pos hm]),om⟩,sb⟩
 refine Jz 11 ?_
 refine To.agP ⟨⟨Ao,qo,O,j+1,rfl,rfl,rfl,om,(by rw[hO1,List.drop_eq_nil_of_le om];rfl),om⟩,sb⟩
 refine Jz 12 ?_
 refine Jdel2 (Jdel1 (Jdel0 (Je1 results54 ?_)))
 exact⟨Ao,qo,by rw[hO,List.drop_eq_nil_of_le om];rfl,by rw[hO,List.drop_eq_nil_of_le om];rfl⟩
theorem cunit_fn(F:Fl)(c:Cm)(C:Cp)(hC:C.Low F)(cb:Nat)(h:Hd)(hps:h.ps.length≤2)(hT:TyH F c h)(hG:CodeOk F c C h)(Ax Ay:OA)(nx qx ny qy:Nat):
    Dz 92 [pv cb, .agg (encH h).toArray] [box cb (cF F [vs C.Ah C.hs C.qh,nv C.own,vs C.Av C.vn C.qv,vs C.At C.tn C.qt,vs C.Af C.fn C.qf, .slice Ax nx qx, .slice Ay ny qy]) 171,all (C.kids F),all (h.kids eX),tabC] (fun v Γ'=>∃(A:OA) (q:Nat),v= .agg (encPU (puOf F c h A q)).toArray∧Γ'=[box cb (cF F [vs C.Ah C.hs C.qh,nv C.own,vs C.Av C.vn C.qv,vs C.At C.tn C.qt,vs C.Af C.fn C.qf,vs h.Ap h.ps h.qp,vs A (codeR F c h) q]) 171,rows Ins.cells 116 4 A q (codeR F c h),all (C.kids F)]):=by
 have hcl:=hG.len
 refine Does.en func92 ntmps92 fun w0=>?_
 refine Js (To.g (Jbo fun b3=>?_))
 refine Jal fun b4=>?_
 refine Jz 17 ?_
 have hC':(C.at h).Low F:=⟨by show h.ps.length≤12;omega,hC.v,hC.t,hC.f,hC.c,hC.h,hC.o,hC.each⟩
 have hce:[]++cB ((C.at h).cc F) (St.pL h.body) ([]:List Ins).length=codeR F c h:=hG.eq
 have hcb:=cbody_fn F (C.at h) hC' cb c ⟨F.Af,F.qf,F.flags,c.Av,c.qv,c.vars,h.Ap,h.qp,h.ps⟩ h.Ab h.qb h.body none 0 [] hT.body (by rw[hce];omega)
 rw[hce]at hcb
 refine JnilRow (enc:=Ins.cells) (e:=116) (size:=4) (Jpart 5 rfl (lsG encX encT h.Ab h.body) (lsG_lax _ _ _ _) (Hd.body_k (k:=eX)) (To.one 6 rfl (ros encZ h.Ap h.ps) rfl (Hd.ps_k (k:=eX)) (Jpart 6 rfl ((C.kids F).tail) (fun z hz=>Cp.lax F C z (List.mem_of_mem_tail hz)) (fun z hz=>List.mem_of_mem_tail hz) (Jup1 (JallCons (Jz 4 ?_))))))
 refine Jcf [5,2,0,0] (hcb) ?_
 rintro _ _ ⟨Ak,qk,rfl⟩
 refine Jz 8 ?_
 refine Jvf (heights_fn ((h.ps.length:Nat):Int) Ak qk (codeR F c h) om hG.form) rfl (ocs (oks_row 1 rfl) (ocs (oca 7 rfl) (ocn _))) ?_
 refine Jz 8 ?_
 refine Jfw [] [0,3,4,5,6,101,2,107,8,509] (ocn _) ?_
 refine Jz 8 ?_
 refine Fw.f rfl (.bd [nv h.ps.length, .int .i64 ((heightsV (codeR F c h)).1),vs Ak (codeR F c h) qk]) ?_
 refine Fw.up rfl rfl rfl (Up.storeS (i:=3) rfl rfl rfl r43 rfl rfl rfl (bta rfl)) (ocn _) ?_
 refine Jz 3 ?_
 refine To.ec [0,0,3] results92 ?_
 exact⟨Ak,qk,rfl,rfl⟩
end Go.Proofs.YtlihklladkagpaaGreatDoor

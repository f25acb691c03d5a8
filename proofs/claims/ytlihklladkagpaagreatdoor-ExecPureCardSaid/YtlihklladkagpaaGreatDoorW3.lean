/- Own text. -/
import Derived.Test.YtlihklladkagpaaGreatDoorWa
set_option maxHeartbeats 8000000
set_option maxRecDepth 100000
set_option linter.unusedVariables false
set_option linter.unusedSimpArgs false
namespace Go.Proofs.YtlihklladkagpaaGreatDoor
open Go.Proofs.Tryz
open Go.RowKit Go.Flow Go.Mem Go.Sep Go.In
section
variable{cc:Cc}{t e:List PS}{X Y1 Z1 WF:List Ins}
theorem at4o{y:Ins}{B V:List Ins}(hY1:Y1=(X++[y])++B)(hZ1:Z1=Y1++V):Z1[X.length]?=some y:=by rw[hZ1,hY1];exact get_mid2 ..
theorem finO{j:Ins}(hZ1:Z1=(X++[j])++cB cc e (X++[j]).length)(hWF:WF=Z1.set X.length ⟨27,((Z1.length:Nat):Int),0,0⟩)(he:e.isEmpty=false):WF=X++ovr X.length (cB cc e (X.length+1)) e.isEmpty:=by
 rw[len1]at hZ1
 have hzl:Z1.length=X.length+1+(cB cc e (X.length+1)).length:=by rw[hZ1,lap,len1]
 rw[hWF,hzl,hZ1,set_mid',he,List.append_assoc];rfl
theorem fin4{y:Ins}{b:Bool}(hY1:Y1=(X++[y])++cB cc t (X++[y]).length)(hZ1:Z1=Y1++ovr Y1.length (cB cc e (Y1.length+1)) b)(hWF:WF=Z1.set X.length ⟨28,((Y1.length+(if b then 0 else 1):Nat):Int),0,0⟩):
    WF=X++(⟨28,((X.length+1+(cB cc t (X.length+1)).length+(if b then 0 else 1):Nat):Int),0,0⟩::(cB cc t (X.length+1)++ovr (X.length+1+(cB cc t (X.length+1)).length) (cB cc e (X.length+1+(cB cc t (X.length+1)).length+1)) b)):=by
 rw[len1]at hY1
 have hyl:Y1.length=X.length+1+(cB cc t (X.length+1)).length:=by rw[hY1,lap,len1]
 rw[hyl]at hZ1 hWF
 rw[hWF,hZ1,hY1,set_mid2];simp
theorem fin8{y z:Ins}{V:List Ins}(hZ1:Z1=(X++[y])++V)(hWF:WF=Z1.set X.length z):WF=X++(z::V):=by
 rw[hWF,hZ1,set_mid',List.append_assoc];rfl
end
theorem cbody_step(F:Fl)(C:Cp)(hC:C.Low F)(cb:Nat)(x:Cm)(σ:Scp)(Ab:OA)(qb:Nat)(bs:List St)(ih:∀y∈bs,∀(A:OA) (q:Nat) (l:List Ins),PS.Ty F x σ y.pure→(l++cS (C.cc F) y.pure l.length).length≤1000000→Dz 183 [pv cb, .agg (encT y).toArray] [box cb (cF F (jP C [vs A l q])) 171,rows Ins.cells 116 4 A q l,all (C.kids F),all (y.kids encX encT)] (fun v Γ'=>∃(A':OA) (q':Nat),Γ'=[box cb (cF F (jP C [vs A' (l++cS (C.cc F) y.pure l.length) q'])) 171,rows Ins.cells 116 4 A' q' (l++cS (C.cc F) y.pure l.length),all (C.kids F)]))(A:OA)(q:Nat)(l:List Ins)(hty:PS.TyL F x σ (St.pL bs))(hl:(l++cB (C.cc F) (St.pL bs) l.length).length≤1000000):
    Dz 150 [pv cb,vs Ab bs qb] [box cb (cF F (jP C [vs A l q])) 171,rows Ins.cells 116 4 A q l,all (C.kids F),all (lsG encX encT Ab bs)] (fun v Γ'=>∃(A':OA) (q':Nat),Γ'=[box cb (cF F (jP C [vs A' (l++cB (C.cc F) (St.pL bs) l.length) q'])) 171,rows Ins.cells 116 4 A' q' (l++cB (C.cc F) (St.pL bs) l.length),all (C.kids F)]):=by
 rw[lap]at hl
 have hal:=cB_pos (C.cc F) bs l.length
 refine Does.en func150 ntmps150 fun w0=>?_
 refine Js (To.one 3 rfl (ros encT Ab bs) rfl (List.mem_cons_self ..) (Jz 7 ?_))
 refine To.loP (fun s g mz ρ Γ=>∃(Aj:OA) (qj:Nat) (lj:List Ins) (j:Nat),ρ=[s 0,s 6,s 7,(8,nv j)]∧Γ=[box cb (cF F (jP C [vs Aj lj qj])) 171,rows Ins.cells 116 4 Aj qj lj,g 3,g 0,g 4]∧mz=bs.length-j∧(j≤bs.length)∧(lj=l++cB (C.cc F) (St.pL (bs.take j)) l.length)) ⟨⟨A,q,l,0,rfl,rfl,rfl,om,((List.append_nil _).symm)⟩,sb⟩ ?_
 rintro mz _ _ ⟨Aj,qj,lj,j,rfl,rfl,rfl,hj,hlj⟩
 have hljl:lj.length=l.length+(cB (C.cc F) (St.pL (bs.take j)) l.length).length:=by rw[hlj,lap]
 refine Jz 6 ?_
 refine Jcp rfl ?_ ?_<;>intro c9
 obtain⟨y,hy⟩:=exg bs j om
 have hle:=cB_le (C.cc F) l.length hy
 rw[←hljl]at hle
 refine Jz 8 ?_
 refine Jal fun b5=>?_
 refine Jz 3 ?_
 refine Jpart 5 rfl (y.kids encX encT) (St.lax encX encT y) (lg_mem hy) (Jz 3 ?_)
 refine Jcf [2,2,2,0] (ih y (mog hy) Aj qj lj (St.tyL_at hty (mog hy)) (by rw[lap];omega)) ?_
 rintro _ _ ⟨An,qn,rfl⟩
 refine Jz 8 ?_
 refine To.agP ⟨⟨An,qn,(lj++cS (C.cc F) y.pure lj.length),j+1,rfl,rfl,rfl,om,(by rw[cB_step _ _ hy,←hljl,←List.append_assoc,←hlj])⟩,sb⟩
 refine Jz 4 ?_
 refine Jdel4 (Jdel3 (Jend0 (.inr rfl) results150 ?_))
 have hE:lj=l++cB (C.cc F) (St.pL bs) l.length:=by rw[hlj,List.take_of_length_le om]
 rw[←hE];exact⟨_,_,rfl⟩
theorem other_fn(F:Fl)(C:Cp)(hC:C.Low F)(cb:Nat)(x:Cm)(σ:Scp)(Ab:OA)(qb:Nat)(bs:List St)(ih:∀(A:OA) (q:Nat) (l:List Ins),PS.TyL F x σ (St.pL bs)→(l++cB (C.cc F) (St.pL bs) l.length).length≤1000000→Dz 150 [pv cb,vs Ab bs qb] [box cb (cF F (jP C [vs A l q])) 171,rows Ins.cells 116 4 A q l,all (C.kids F),all (lsG encX encT Ab bs)] (fun v Γ'=>∃(A':OA) (q':Nat),Γ'=[box cb (cF F (jP C [vs A' (l++cB (C.cc F) (St.pL bs) l.length) q'])) 171,rows Ins.cells 116 4 A' q' (l++cB (C.cc F) (St.pL bs) l.length),all (C.kids F)]))(X:List Ins)(A:OA)(q:Nat)(hty:PS.TyL F x σ (St.pL bs))(hl:(X++ovr X.length (cB (C.cc F) (St.pL bs) (X.length+1)) (St.pL bs).isEmpty).length≤1000000):
    Dz 204 [pv cb,vs Ab bs qb] [box cb (cF F (jP C [vs A X q])) 171,rows Ins.cells 116 4 A q X,all (C.kids F),all (lsG encX encT Ab bs)] (fun v Γ'=>∃(A':OA) (q':Nat),v=nv (X.length+(if(St.pL bs).isEmpty then 0 else 1))∧Γ'=[box cb (cF F (jP C [vs A' (X++ovr X.length (cB (C.cc F) (St.pL bs) (X.length+1)) (St.pL bs).isEmpty) q'])) 171,rows Ins.cells 116 4 A' q' (X++ovr X.length (cB (C.cc F) (St.pL bs) (X.length+1)) (St.pL bs).isEmpty),all (C.kids F)]):=by
 rw[lap]at hl
 have hX1:(X++[(⟨27,0,0,0⟩:Ins)]).length=X.length+1:=len1 ..
 refine Does.en func204 ntmps204 fun w0=>?_
 refine Jz 13 ?_
 refine Jcp rfl ?_ ?_<;>intro c9
 refine Jz 12 ?_
 refine Jdel3 (Je1 results204 ?_)
 have he:(St.pL bs).isEmpty=true:=by rw[isEmpty_len];exact decide_eq_true om
 have hE:X=X++ovr X.length (cB (C.cc F) (St.pL bs) (X.length+1)) (St.pL bs).isEmpty:=by rw[he];exact(List.append_nil _).symm
 rw[←hE,he];exact⟨_,_,rfl,rfl⟩
 have hov:=ovr_len1 X.length (cB (C.cc F) (St.pL bs) (X.length+1)) (b:=(St.pL bs).isEmpty) (by rw[isEmpty_len];exact decide_eq_false om)
 refine Jz 5 ?_
 refine Jr (.bd [.int .u8 27, .int .i64 0, .int .i64 0, .int .i64 0]) ?_
 refine Jcf [0,0] (emit_fn F C hC cb A q X (⟨27,0,0,0⟩:Ins) (by simp only[lap,lc1,ln0];omega)) ?_
 rintro _ _ ⟨An,qn,rfl,rfl⟩
 refine Jz 17 ?_
 refine Jcf [0,0,0,0] (ih An qn (X++[(⟨27,0,0,0⟩:Ins)]) hty (by rw[lap,hX1];omega)) ?_
 rintro _ _ ⟨An_2,qn_2,rfl⟩
 refine Jz 3 ?_
 refine To.nm ?_
 obtain⟨Z1,hZ1⟩:∃z0,z0=((X++[(⟨27,0,0,0⟩:Ins)])++cB (C.cc F) (St.pL bs) (X++[(⟨27,0,0,0⟩:Ins)]).length):=⟨_,rfl⟩
 rw[←hZ1]
 refine Jfw [] [0,1,2,4,5,6,7,103,108,9,110,11,512] (ocn _) ?_
 refine Jz 10 ?_
 refine Fw.r rfl (Rd.ixr (i:=1) (j:=X.length) rfl rfl rfl s41 rfl (at4 hZ1)) ?_
 refine Jz 1 ?_
 refine Fw.up rfl rfl rfl (Up.store (i:=1) rfl rfl rfl c3 rfl rfl (rows_takesF (f:=1) (y:=(⟨27,0,0,0⟩:Ins)) (z:=(⟨27,((Z1.length:Nat):Int),0,0⟩:Ins)) encIn (at4 hZ1) (by decide) rfl)) (ocn _) ?_
 refine Jz 9 ?_
 refine To.nm ?_
 obtain⟨WF,hWF⟩:∃z0,z0=(Z1.set X.length (⟨27,((Z1.length:Nat):Int),0,0⟩:Ins)):=⟨_,rfl⟩
 rw[←hWF]
 have hlWF:WF.length=Z1.length:=by rw[hWF];exact List.length_set ..
 (try unfold vs);rw[←hlWF]
 refine Je1 results204 ?_
 have he:(St.pL bs).isEmpty=false:=by rw[isEmpty_len];exact decide_eq_false om
 have hE:WF=X++ovr X.length (cB (C.cc F) (St.pL bs) (X.length+1)) (St.pL bs).isEmpty:=finO hZ1 hWF he
 rw[←hE,he];exact⟨_,_,by rw[len1];rfl,rfl⟩
theorem cstmt_step(F:Fl)(C:Cp)(hC:C.Low F)(cb:Nat)(x:Cm)(σ:Scp)(s:St)(ihT:∀(A:OA) (q:Nat) (l:List Ins),PS.TyL F x σ (St.pL s.thn)→(l++cB (C.cc F) (St.pL s.thn) l.length).length≤1000000→Dz 150 [pv cb,vs s.At s.thn s.qt] [box cb (cF F (jP C [vs A l q])) 171,rows Ins.cells 116 4 A q l,all (C.kids F),all (lsG encX encT s.At s.thn)] (fun v Γ'=>∃(A':OA) (q':Nat),Γ'=[box cb (cF F (jP C [vs A' (l++cB (C.cc F) (St.pL s.thn) l.length) q'])) 171,rows Ins.cells 116 4 A' q' (l++cB (C.cc F) (St.pL s.thn) l.length),all (C.kids F)]))(ihE:∀(A:OA) (q:Nat) (l:List Ins),PS.TyL F x σ (St.pL s.els)→(l++cB (C.cc F) (St.pL s.els) l.length).length≤1000000→Dz 150 [pv cb,vs s.Ae s.els s.qe] [box cb (cF F (jP C [vs A l q])) 171,rows Ins.cells 116 4 A q l,all (C.kids F),all (lsG encX encT s.Ae s.els)] (fun v Γ'=>∃(A':OA) (q':Nat),Γ'=[box cb (cF F (jP C [vs A' (l++cB (C.cc F) (St.pL s.els) l.length) q'])) 171,rows Ins.cells 116 4 A' q' (l++cB (C.cc F) (St.pL s.els) l.length),all (C.kids F)]))(A:OA)(q:Nat)(l:List Ins)(hty:PS.Ty F x σ s.pure)(hl:(l++cS (C.cc F) s.pure l.length).length≤1000000):
    Dz 183 [pv cb, .agg (encT s).toArray] [box cb (cF F (jP C [vs A l q])) 171,rows Ins.cells 116 4 A q l,all (C.kids F),all (s.kids encX encT)] (fun v Γ'=>∃(A':OA) (q':Nat),Γ'=[box cb (cF F (jP C [vs A' (l++cS (C.cc F) s.pure l.length) q'])) 171,rows Ins.cells 116 4 A' q' (l++cS (C.cc F) s.pure l.length),all (C.kids F)]):=by
 have hT:=St.ty_at hty
 have hEl:(cS (C.cc F) s.pure l.length).length=(cEs (C.cc F) (Ex.pL s.exprs)).length+1+(tailS (C.cc F) s.pure (l.length+(cEs (C.cc F) (Ex.pL s.exprs)).length+1) l.length).length:=by
  rw[cS_tail,lap,lc1,show s.pure.exprs=Ex.pL s.exprs by rw[St.pq]]
 rw[lap]at hl
 have hel:=ex_args_le (C.cc F) s.exprs
 refine Does.en func183 ntmps183 fun w0=>?_
 refine Js (To.g (Jbo fun b3=>?_))
 refine Jz 5 ?_
 refine Jr (.bd [.int .u8 29, .int .i64 0, .int .i64 0, .int .i64 0]) ?_
 refine Jcf [1,1] (emit_fn F C hC cb A q l (⟨29,0,0,0⟩:Ins) (by simp only[lap,lc1,ln0];omega)) ?_
 rintro _ _ ⟨An,qn,rfl,rfl⟩
 refine Jz 4 ?_
 refine Jpart 4 rfl (lsF encX s.A s.exprs) (lsF_lax _ _ _) (St.exprs_kids s) (Jz 4 ?_)
 refine Jcf [1,1,2,0] (cexprs_fn F C hC cb s.A s.q s.exprs An qn (l++[(⟨29,0,0,0⟩:Ins)]) (by rw[lap,len1];omega)) ?_
 rintro _ _ ⟨An_2,qn_2,rfl⟩
 refine Jz 10 ?_
 refine To.nm ?_
 obtain⟨X,hX⟩:∃z0,z0=((l++[(⟨29,0,0,0⟩:Ins)])++cEs (C.cc F) (Ex.pL s.exprs)):=⟨_,rfl⟩
 rw[←hX]
 have hXl:X.length=l.length+1+(cEs (C.cc F) (Ex.pL s.exprs)).length:=by rw[hX,lap,len1]
 have hfin:=fin_all (C.cc F) s hX
 have hlen:=congrArg List.length hfin
 rw[lap,lap]at hlen
 refine Jz 5 ?_
 refine Jcp rfl ?_ ?_<;>intro k22
 have hk:s.kind=1:=om
 have htl:=congrArg List.length (tail1 (c:=(C.cc F)) (n:=X.length) (top:=l.length) hk)
 rw[List.length_singleton]at htl
 refine To.one 2 rfl (ros encZ C.Av C.vn) rfl (Cp.vn_k) (Jfw [] [0,1,2,3,5,104,106,307,8,509] (ocn _) ?_)
 refine Jz 7 ?_
 refine Fw.qf (index_fn C.Av C.qv C.vn s.name _ hC.v rfl) (ocs (oca 0 rfl) (ocn _)) ?_
 refine Fw.f rfl (.bd [.int .u8 24, .int .i64 (oI (ixF s.name 0 C.vn)), .int .i64 0, .int .i64 0]) ?_
 refine Fw.cf [1,1] (emit_fn F C hC cb An_2 qn_2 X (⟨24,oI (ixF s.name 0 C.vn),0,0⟩:Ins) (by simp only[lap,lc1,ln0];omega)) ?_
 rintro _ _ ⟨An_3,qn_3,rfl,rfl⟩
 refine⟨ocn _,?_⟩
 refine Jz 2 ?_
 refine Jdel5 (Jdel4 (Jdel2 (Jend0 (.inr rfl) results183 ?_)))
 have hE:X++[(⟨24,oI (ixF s.name 0 C.vn),0,0⟩:Ins)]=l++cS (C.cc F) s.pure l.length:=by rw[hfin,tail1 hk];rfl
 rw[←hE];exact⟨_,_,rfl⟩
 refine Jz 6 ?_
 refine Jcp rfl ?_ ?_<;>intro k34
 have hk:s.kind=2:=om
 have htl:=congrArg List.length (tail2 (c:=(C.cc F)) (n:=X.length) (top:=l.length) hk)
 rw[List.length_singleton]at htl
 refine To.one 2 rfl (ros encZ C.At C.tn) rfl (Cp.tn_k) (Jfw [] [0,1,2,3,5,104,106,307,8,509] (ocn _) ?_)
 refine Jz 7 ?_
 refine Fw.qf (index_fn C.At C.qt C.tn s.name _ hC.t rfl) (ocs (oca 0 rfl) (ocn _)) ?_
 refine Fw.f rfl (.bd [.int .u8 25, .int .i64 (oI (ixF s.name 0 C.tn)), .int .i64 0, .int .i64 0]) ?_
 refine Fw.cf [1,1] (emit_fn F C hC cb An_2 qn_2 X (⟨25,oI (ixF s.name 0 C.tn),0,0⟩:Ins) (by simp only[lap,lc1,ln0];omega)) ?_
 rintro _ _ ⟨An_4,qn_4,rfl,rfl⟩
 refine⟨ocn _,?_⟩
 refine Jz 2 ?_
 refine Jdel5 (Jdel4 (Jdel2 (Jend0 (.inr rfl) results183 ?_)))
 have hE:X++[(⟨25,oI (ixF s.name 0 C.tn),0,0⟩:Ins)]=l++cS (C.cc F) s.pure l.length:=by rw[hfin,tail2 hk];rfl
 rw[←hE];exact⟨_,_,rfl⟩
 refine Jz 6 ?_
 refine Jcp rfl ?_ ?_<;>intro k46
 have hk:s.kind=3:=om
 have htl:=congrArg List.length (tail3 (c:=(C.cc F)) (n:=X.length) (top:=l.length) hk)
 rw[List.length_singleton]at htl
 refine To.one 2 rfl (ros encZ C.At C.tn) rfl (Cp.tn_k) (Jfw [] [0,1,2,3,5,104,106,307,8,509] (ocn _) ?_)
 refine Jz 7 ?_
 refine Fw.qf (index_fn C.At C.qt C.tn s.name _ hC.t rfl) (ocs (oca 0 rfl) (ocn _)) ?_
 refine Fw.f rfl (.bd [.int .u8 26, .int .i64 (oI (ixF s.name 0 C.tn)), .int .i64 0, .int .i64 0]) ?_
 refine Fw.cf [1,1] (emit_fn F C hC cb An_2 qn_2 X (⟨26,oI (ixF s.name 0 C.tn),0,0⟩:Ins) (by simp only[lap,lc1,ln0];omega)) ?_
 rintro _ _ ⟨An_5,qn_5,rfl,rfl⟩
 refine⟨ocn _,?_⟩
 refine Jz 2 ?_
 refine Jdel5 (Jdel4 (Jdel2 (Jend0 (.inr rfl) results183 ?_)))
 have hE:X++[(⟨26,oI (ixF s.name 0 C.tn),0,0⟩:Ins)]=l++cS (C.cc F) s.pure l.length:=by rw[hfin,tail3 hk];rfl
 rw[←hE];exact⟨_,_,rfl⟩
 refine Jz 6 ?_
 refine Jcp rfl ?_ ?_<;>intro k58
 have hk:s.kind=4:=om
 have htl:=congrArg List.length (tail4 (c:=(C.cc F)) (n:=X.length) (top:=l.length) hk)
 rw[lc1,lap]at htl
 refine Jz 3 ?_
 refine Jr (.bd [.int .u8 28, .int .i64 0, .int .i64 0, .int .i64 0]) ?_
 refine Jcf [0,0] (emit_fn F C hC cb An_2 qn_2 X (⟨28,0,0,0⟩:Ins) (by simp only[lap,lc1,ln0];omega)) ?_
 rintro _ _ ⟨An_6,qn_6,rfl,rfl⟩
 refine Jz 4 ?_
 refine Jpart 4 rfl (lsG encX encT s.At s.thn) (lsG_lax _ _ _ _) (St.thn_kids s) ?_
 have hx28:(X++[(⟨28,0,0,0⟩:Ins)]).length=X.length+1:=len1 ..
 refine Jz 4 ?_
 refine Jcf [1,1,1,0] (ihT An_6 qn_6 (X++[(⟨28,0,0,0⟩:Ins)]) hT.2.1 (by rw[lap,hx28];omega)) ?_
 rintro _ _ ⟨An_7,qn_7,rfl⟩
 refine Jz 3 ?_
 refine To.nm ?_
 obtain⟨Y1,hY1⟩:∃z0,z0=((X++[(⟨28,0,0,0⟩:Ins)])++cB (C.cc F) (St.pL s.thn) (X++[(⟨28,0,0,0⟩:Ins)]).length):=⟨_,rfl⟩
 rw[←hY1]
 have hyl:Y1.length=X.length+1+(cB (C.cc F) (St.pL s.thn) (X.length+1)).length:=by rw[hY1,lap,hx28]
 refine Jpart 4 rfl (lsG encX encT s.Ae s.els) (lsG_lax _ _ _ _) (St.els_kids s) (Jz 4 ?_)
 refine Jcf [1,1,1,0] (other_fn F C hC cb x σ s.Ae s.qe s.els ihE Y1 An_7 qn_7 hT.2.2 (by rw[lap,hyl];omega)) ?_
 rintro _ _ ⟨An_8,qn_8,rfl,rfl⟩
 refine Jz 3 ?_
 refine To.nm ?_
 obtain⟨Z1,hZ1⟩:∃z0,z0=(Y1++ovr Y1.length (cB (C.cc F) (St.pL s.els) (Y1.length+1)) (St.pL s.els).isEmpty):=⟨_,rfl⟩
 rw[←hZ1]
 refine Jz 7 ?_
 refine Jr (Rd.ixr (i:=1) (j:=X.length) rfl rfl rfl s41 rfl (at4o hY1 hZ1)) ?_
 refine Jz 1 ?_
 refine To.u (Up.store (i:=1) rfl rfl rfl c3 rfl rfl (rows_takesF (f:=1) (y:=(⟨28,0,0,0⟩:Ins)) (z:=(⟨28,(((Y1.length+(if(St.pL s.els).isEmpty then 0 else 1)):Nat):Int),0,0⟩:Ins)) encIn (at4o hY1 hZ1) (by decide) rfl)) ?_
 refine To.n (Jbn (To.nm ?_))
 obtain⟨WF,hWF⟩:∃z0,z0=(Z1.set X.length (⟨28,(((Y1.length+(if(St.pL s.els).isEmpty then 0 else 1)):Nat):Int),0,0⟩:Ins)):=⟨_,rfl⟩
 rw[←hWF]
 have hlWF:WF.length=Z1.length:=by rw[hWF];exact List.length_set ..
 (try unfold vs);rw[←hlWF]
 refine Jdel4 (Jdel3 (Jend0 (.inr rfl) results183 ?_))
 have hE:WF=l++cS (C.cc F) s.pure l.length:=by rw[hfin,tail4 hk];exact fin4 hY1 hZ1 hWF
 rw[←hE];exact⟨_,_,rfl⟩
 refine Jz 6 ?_
 refine Jcp rfl ?_ ?_<;>intro k79
 have hk:s.kind=5:=om
 have htl:=congrArg List.length (tail5 (c:=(C.cc F)) (n:=X.length) (top:=l.length) hk)
 rw[lc1,lap,List.length_singleton]at htl
 refine Jz 3 ?_
 refine Jr (.bd [.int .u8 28, .int .i64 0, .int .i64 0, .int .i64 0]) ?_
 refine Jcf [0,0] (emit_fn F C hC cb An_2 qn_2 X (⟨28,0,0,0⟩:Ins) (by simp only[lap,lc1,ln0];omega)) ?_
 rintro _ _ ⟨An_9,qn_9,rfl,rfl⟩
 refine Jz 4 ?_
 refine Jpart 4 rfl (lsG encX encT s.At s.thn) (lsG_lax _ _ _ _) (St.thn_kids s) ?_
 have hx28:(X++[(⟨28,0,0,0⟩:Ins)]).length=X.length+1:=len1 ..
 refine Jz 4 ?_
 refine Jcf [1,1,1,0] (ihT An_9 qn_9 (X++[(⟨28,0,0,0⟩:Ins)]) hT.2.1 (by rw[lap,hx28];omega)) ?_
 rintro _ _ ⟨An_10,qn_10,rfl⟩
 refine Jz 3 ?_
 refine To.nm ?_
 obtain⟨Y1,hY1⟩:∃z0,z0=((X++[(⟨28,0,0,0⟩:Ins)])++cB (C.cc F) (St.pL s.thn) (X++[(⟨28,0,0,0⟩:Ins)]).length):=⟨_,rfl⟩
 rw[←hY1]
 have hyl:Y1.length=X.length+1+(cB (C.cc F) (St.pL s.thn) (X.length+1)).length:=by rw[hY1,lap,hx28]
 refine Jz 3 ?_
 refine Jr (.bd [.int .u8 27,nv l.length, .int .i64 0, .int .i64 0]) ?_
 refine Jcf [0,0] (emit_fn F C hC cb An_10 qn_10 Y1 (⟨27,((l.length:Nat):Int),0,0⟩:Ins) (by simp only[lap,lc1,ln0];omega)) ?_
 rintro _ _ ⟨An_11,qn_11,rfl,rfl⟩
 refine To.n (Jt (Jfw [] [0,1,2,4,5,6,7,103,108,9,110,11,512] (ocn _) ?_))
 refine Jz 10 ?_
 refine Fw.r rfl (Rd.ixr (i:=1) (j:=X.length) rfl rfl rfl s41 rfl (at4b hY1)) ?_
 refine Jz 1 ?_
 refine Fw.up rfl rfl rfl (Up.store (i:=1) rfl rfl rfl c3 rfl rfl (rows_takesF (f:=1) (y:=(⟨28,0,0,0⟩:Ins)) (z:=(⟨28,(((Y1++[(⟨27,((l.length:Nat):Int),0,0⟩:Ins)]).length:Nat):Int),0,0⟩:Ins)) encIn (at4b hY1) (by decide) rfl)) (ocn _) ?_
 refine Jz 2 ?_
 refine To.nm ?_
 obtain⟨WF,hWF⟩:∃z0,z0=((Y1++[(⟨27,((l.length:Nat):Int),0,0⟩:Ins)]).set X.length (⟨28,(((Y1++[(⟨27,((l.length:Nat):Int),0,0⟩:Ins)]).length:Nat):Int),0,0⟩:Ins)):=⟨_,rfl⟩
 rw[←hWF]
 have hlWF:WF.length=(Y1++[(⟨27,((l.length:Nat):Int),0,0⟩:Ins)]).length:=by rw[hWF];exact List.length_set ..
 (try unfold vs);rw[←hlWF]
 refine Jdel4 (Jdel3 (Jend0 (.inr rfl) results183 ?_))
 have hE:WF=l++cS (C.cc F) s.pure l.length:=by rw[hfin,tail5 hk];exact fin5 hY1 hWF
 rw[←hE];exact⟨_,_,rfl⟩
 refine Jz 6 ?_
 refine Jcp rfl ?_ ?_<;>intro k104
 have hk:s.kind=6:=om
 have htl:=congrArg List.length (tail6 (c:=(C.cc F)) (n:=X.length) (top:=l.length) hk)
 rw[List.length_singleton]at htl
 obtain⟨c,h',hfc,hfh,hhl⟩:=hT.1.k6 hk
 obtain⟨to,hto,hcm⟩:=fd_ix (f:=Cm.name) (k:=0) hfc
 rw[Nat.zero_add]at hto
 have htl2:to<C.hs.length:=by rw[hC.h];exact(List.getElem?_eq_some_iff.1 hcm).1
 obtain⟨hn,hhn⟩:∃hn,C.hs[to]?=some hn:=⟨_,gge htl2⟩
 have htg:(C.cc F).tg s.name s.hand=(((to:Nat):Int),oI (ixF s.hand 0 hn.l)):=by
  show(oI (ixF s.name 0 (F.comps.map Cm.name)),oI (ixF s.hand 0 (hnAt C (oI (ixF s.name 0 (F.comps.map Cm.name))).toNat)))=_
  rw[hto]
  show(((to:Nat):Int),oI (ixF s.hand 0 (hnAt C to)))=_
  rw[hnAt_of hhn]
 refine Js (To.one 2 rfl (ros encC F.Ac F.comps) rfl (Cp.cm_k) (Jup4 (JlayBox (Jz 6 ?_))))
 refine Jr (Rd.makeFunc rfl rfl rfl) ?_
 refine Jvf (indexC_fn b3 s F.Ac F.qc F.comps (some to) hC.c hto) rfl (ocs (oca 1 rfl) (ocs (oca 0 rfl) (ocn _))) ?_
 refine Jz 3 ?_
 refine To.one 4 rfl (ros encHN C.Ah C.hs) rfl (Cp.hs_k) (To.one 5 rfl (ros encZ hn.A hn.l) rfl (Cp.hn_k hhn) (Jfw [] [0,1,2,3,4,6,9,12,105,107,108,110,311,113,14,15,516] (ocn _) ?_))
 refine Jz 11 ?_
 refine Fw.r rfl (Rd.ld (i:=2) rfl rfl c9 rfl (ro_gives (A:=some ⟨b3,0,none⟩) (o:=2) (k:=1) rfl)) ?_
 refine Fw.qf (index_fn hn.A hn.q hn.l s.hand _ (hC.each hn (mog hhn)) rfl) (ocs (oca 0 rfl) (ocn _)) ?_
 refine Fw.r rfl (Rd.ld (i:=2) rfl rfl c244 rfl (ro_gives (A:=some ⟨b3,0,none⟩) (o:=3) (k:=1) rfl)) ?_
 refine Jz 1 ?_
 refine Fw.f rfl (.bd [.int .u8 30,nv to, .int .i64 (oI (ixF s.hand 0 hn.l)),nv s.exprs.length]) ?_
 refine Fw.cf [4,4] (emit_fn F C hC cb An_2 qn_2 X (⟨30,((to:Nat):Int),oI (ixF s.hand 0 hn.l),((s.exprs.length:Nat):Int)⟩:Ins) (by simp only[lap,lc1,ln0];omega)) ?_
 rintro _ _ ⟨An_12,qn_12,rfl,rfl⟩
 refine⟨ocn _,?_⟩
 refine Jz 2 ?_
 refine Jdel7 (Jdel5 (Jdel4 (Jdel3 (Jdel2 (Jend0 (.inr rfl) results183 ?_)))))
 have hE:X++[(⟨30,((to:Nat):Int),oI (ixF s.hand 0 hn.l),((s.exprs.length:Nat):Int)⟩:Ins)]=l++cS (C.cc F) s.pure l.length:=by rw[hfin,tail6 hk];rw[htg]
 rw[←hE];exact⟨_,_,rfl⟩
 refine Jz 6 ?_
 refine Jcp rfl ?_ ?_<;>intro k130
 have hk:s.kind=7:=om
 have htl:=congrArg List.length (tail7 (c:=(C.cc F)) (n:=X.length) (top:=l.length) hk)
 rw[List.length_singleton]at htl
 obtain⟨hn,hhn⟩:∃hn,C.hs[C.own]?=some hn:=⟨_,gge hC.o⟩
 have htg:(C.cc F).ah s.hand=oI (ixF s.hand 0 hn.l):=by
  show oI (ixF s.hand 0 (hnAt C C.own))=_
  rw[hnAt_of hhn]
 refine To.one 2 rfl (ros encHN C.Ah C.hs) rfl (Cp.hs_k) (To.one 3 rfl (ros encZ hn.A hn.l) rfl (Cp.hn_k hhn) (Jfw [] [0,1,2,3,5,6,7,11,14,104,108,109,110,112,313,115,16,17,18,519] (ocn _) ?_))
 refine Jz 14 ?_
 refine Fw.qf (index_fn hn.A hn.q hn.l s.hand _ (hC.each hn (mog hhn)) rfl) (ocs (oca 0 rfl) (ocn _)) ?_
 refine Jz 2 ?_
 refine Fw.f rfl (Rd.sub64 rfl rfl rfl om) ?_
 refine Fw.f rfl (.bd [.int .u8 31, .int .i64 0, .int .i64 (oI (ixF s.hand 0 hn.l)), .int .i64 (((s.exprs.length:Nat):Int)-1)]) ?_
 refine Fw.cf [2,2] (emit_fn F C hC cb An_2 qn_2 X (⟨31,0,oI (ixF s.hand 0 hn.l),((s.exprs.length:Nat):Int)-1⟩:Ins) (by simp only[lap,lc1,ln0];omega)) ?_
 rintro _ _ ⟨An_13,qn_13,rfl,rfl⟩
 refine⟨ocn _,?_⟩
 refine Jz 2 ?_
 refine Jdel6 (Jdel5 (Jdel3 (Jdel2 (Jend0 (.inr rfl) results183 ?_))))
 have hE:X++[(⟨31,0,oI (ixF s.hand 0 hn.l),((s.exprs.length:Nat):Int)-1⟩:Ins)]=l++cS (C.cc F) s.pure l.length:=by rw[hfin,tail7 hk];rw[htg]
 rw[←hE];exact⟨_,_,rfl⟩
 refine Jz 6 ?_
 refine Jcp rfl ?_ ?_<;>intro k152
 have hk:s.kind=8:=om
 have htl:=congrArg List.length (tail8 (c:=(C.cc F)) (n:=X.length) (top:=l.length) hk)
 rw[lc1]at htl
 refine Jz 3 ?_
 refine Jr (.bd [.int .u8 32, .int .i64 0, .int .i64 0, .int .i64 0]) ?_
 refine Jcf [0,0] (emit_fn F C hC cb An_2 qn_2 X (⟨32,0,0,0⟩:Ins) (by simp only[lap,lc1,ln0];omega)) ?_
 rintro _ _ ⟨An_14,qn_14,rfl,rfl⟩
 refine Jz 4 ?_
 refine Jpart 4 rfl (lsG encX encT s.Ae s.els) (lsG_lax _ _ _ _) (St.els_kids s) (Jz 4 ?_)
 refine Jcf [1,1,1,0] (other_fn F C hC cb x σ s.Ae s.qe s.els ihE (X++[(⟨32,0,0,0⟩:Ins)]) An_14 qn_14 hT.2.2 (by rw[lap,len1,show X.length+1+1=X.length+2 from rfl];omega)) ?_
 rintro _ _ ⟨An_15,qn_15,rfl,rfl⟩
 refine Jz 3 ?_
 refine To.nm ?_
 obtain⟨Z1,hZ1⟩:∃z0,z0=((X++[(⟨32,0,0,0⟩:Ins)])++ovr (X++[(⟨32,0,0,0⟩:Ins)]).length (cB (C.cc F) (St.pL s.els) ((X++[(⟨32,0,0,0⟩:Ins)]).length+1)) (St.pL s.els).isEmpty):=⟨_,rfl⟩
 rw[←hZ1]
 refine Jz 7 ?_
 refine Jr (Rd.ixr (i:=1) (j:=X.length) rfl rfl rfl s41 rfl (at4 hZ1)) ?_
 refine Jz 1 ?_
 refine To.u (Up.store (i:=1) rfl rfl rfl c3 rfl rfl (rows_takesF (f:=2) (y:=(⟨32,0,0,0⟩:Ins)) (z:=(⟨32,0,((((X++[(⟨32,0,0,0⟩:Ins)]).length+(if(St.pL s.els).isEmpty then 0 else 1)):Nat):Int),0⟩:Ins)) encIn (at4 hZ1) (by decide) rfl)) ?_
 refine To.n (Jbn (To.nm ?_))
 obtain⟨WF,hWF⟩:∃z0,z0=(Z1.set X.length (⟨32,0,((((X++[(⟨32,0,0,0⟩:Ins)]).length+(if(St.pL s.els).isEmpty then 0 else 1)):Nat):Int),0⟩:Ins)):=⟨_,rfl⟩
 rw[←hWF]
 have hlWF:WF.length=Z1.length:=by rw[hWF];exact List.length_set ..
 (try unfold vs);rw[←hlWF]
 refine Jdel4 (Jdel3 (Jend0 (.inr rfl) results183 ?_))
 have hE:WF=l++cS (C.cc F) s.pure l.length:=by rw[hfin,tail8 hk];rw[len1]at hZ1 hWF;exact fin8 hZ1 hWF
 rw[←hE];exact⟨_,_,rfl⟩
 refine Jz 6 ?_
 refine Jcp rfl ?_ ?_<;>intro k169
 have hk:s.kind=9:=om
 have htl:=congrArg List.length (tail9 (c:=(C.cc F)) (n:=X.length) (top:=l.length) hk)
 rw[lc1]at htl
 refine Js (To.one 2 rfl (ros encZ C.Av C.vn) rfl (Cp.vn_k) (Jfw [] [0,1,2,3,5,104,106,307,8,509,10] (ocn _) ?_))
 refine Jz 7 ?_
 refine Fw.qf (index_fn C.Av C.qv C.vn s.name _ hC.v rfl) (ocs (oca 0 rfl) (ocn _)) ?_
 refine Fw.f rfl (.bd [.int .u8 33, .int .i64 (oI (ixF s.name 0 C.vn)), .int .i64 0, .int .i64 0]) ?_
 refine Fw.cf [1,1] (emit_fn F C hC cb An_2 qn_2 X (⟨33,oI (ixF s.name 0 C.vn),0,0⟩:Ins) (by simp only[lap,lc1,ln0];omega)) ?_
 rintro _ _ ⟨An_16,qn_16,rfl,rfl⟩
 refine⟨ocn _,?_⟩
 refine Jz 4 ?_
 refine Jpart 5 rfl (lsG encX encT s.Ae s.els) (lsG_lax _ _ _ _) (St.els_kids s) (Jz 4 ?_)
 refine Jcf [1,1,2,0] (other_fn F C hC cb x σ s.Ae s.qe s.els ihE (X++[(⟨33,oI (ixF s.name 0 C.vn),0,0⟩:Ins)]) An_16 qn_16 hT.2.2 (by rw[lap,len1,show X.length+1+1=X.length+2 from rfl];omega)) ?_
 rintro _ _ ⟨An_17,qn_17,rfl,rfl⟩
 refine Jz 3 ?_
 refine To.nm ?_
 obtain⟨Z1,hZ1⟩:∃z0,z0=((X++[(⟨33,oI (ixF s.name 0 C.vn),0,0⟩:Ins)])++ovr (X++[(⟨33,oI (ixF s.name 0 C.vn),0,0⟩:Ins)]).length (cB (C.cc F) (St.pL s.els) ((X++[(⟨33,oI (ixF s.name 0 C.vn),0,0⟩:Ins)]).length+1)) (St.pL s.els).isEmpty):=⟨_,rfl⟩
 rw[←hZ1]
 refine Jz 7 ?_
 refine Jr (Rd.ixr (i:=1) (j:=X.length) rfl rfl rfl s41 rfl (at4 hZ1)) ?_
 refine Jz 1 ?_
 refine To.u (Up.store (i:=1) rfl rfl rfl c3 rfl rfl (rows_takesF (f:=2) (y:=(⟨33,oI (ixF s.name 0 C.vn),0,0⟩:Ins)) (z:=(⟨33,oI (ixF s.name 0 C.vn),((((X++[(⟨33,oI (ixF s.name 0 C.vn),0,0⟩:Ins)]).length+(if(St.pL s.els).isEmpty then 0 else 1)):Nat):Int),0⟩:Ins)) encIn (at4 hZ1) (by decide) rfl)) ?_
 refine To.n (Jbn (To.nm ?_))
 obtain⟨WF,hWF⟩:∃z0,z0=(Z1.set X.length (⟨33,oI (ixF s.name 0 C.vn),((((X++[(⟨33,oI (ixF s.name 0 C.vn),0,0⟩:Ins)]).length+(if(St.pL s.els).isEmpty then 0 else 1)):Nat):Int),0⟩:Ins)):=⟨_,rfl⟩
 rw[←hWF]
 have hlWF:WF.length=Z1.length:=by rw[hWF];exact List.length_set ..
 (try unfold vs);rw[←hlWF]
 refine Jdel5 (Jdel4 (Jdel3 (Jend0 (.inr rfl) results183 ?_)))
 have hE:WF=l++cS (C.cc F) s.pure l.length:=by rw[hfin,tail9 hk];rw[len1]at hZ1 hWF;exact fin8 hZ1 hWF
 rw[←hE];exact⟨_,_,rfl⟩
 refine Jz 6 ?_
 refine Jcp rfl ?_ ?_<;>intro k193
 have hk:s.kind=10:=om
 have htl:=congrArg List.length (tail10 (c:=(C.cc F)) (n:=X.length) (top:=l.length) hk)
 rw[List.length_singleton]at htl
 refine Jz 2 ?_
 refine Jr (.bd [.int .u8 34, .int .i64 0, .int .i64 0, .int .i64 0]) ?_
 refine Jcf [0,0] (emit_fn F C hC cb An_2 qn_2 X (⟨34,0,0,0⟩:Ins) (by simp only[lap,lc1,ln0];omega)) ?_
 rintro _ _ ⟨An_18,qn_18,rfl,rfl⟩
 refine To.n (Jbn (Jdel4 (Jdel3 (Jend0 (.inr rfl) results183 ?_))))
 have hE:X++[(⟨34,0,0,0⟩:Ins)]=l++cS (C.cc F) s.pure l.length:=by rw[hfin,tail10 hk]
 rw[←hE];exact⟨_,_,rfl⟩
 refine Jz 2 ?_
 refine Jdel4 (Jdel3 (Jend0 (.inr rfl) results183 ?_))
 have hk:¬s.kind=1∧¬s.kind=2∧¬s.kind=3∧¬s.kind=4∧¬s.kind=5∧¬s.kind=6∧¬s.kind=7∧¬s.kind=8∧¬s.kind=9∧¬s.kind=10:=om
 have hE:X=l++cS (C.cc F) s.pure l.length:=by rw[hfin,tail0 hk];exact(List.append_nil _).symm
 rw[←hE];exact⟨_,_,rfl⟩
theorem cstmt_fn(F:Fl)(C:Cp)(hC:C.Low F)(cb:Nat)(x:Cm)(σ:Scp):∀s:St,∀(A:OA) (q:Nat) (l:List Ins),PS.Ty F x σ s.pure→(l++cS (C.cc F) s.pure l.length).length≤1000000→Dz 183 [pv cb, .agg (encT s).toArray] [box cb (cF F (jP C [vs A l q])) 171,rows Ins.cells 116 4 A q l,all (C.kids F),all (s.kids encX encT)] (fun v Γ'=>∃(A':OA) (q':Nat),Γ'=[box cb (cF F (jP C [vs A' (l++cS (C.cc F) s.pure l.length) q'])) 171,rows Ins.cells 116 4 A' q' (l++cS (C.cc F) s.pure l.length),all (C.kids F)])
 |s,A,q,l,ht,hl=>cstmt_step F C hC cb x σ s (fun A q l ht hl=>cbody_step F C hC cb x σ s.At s.qt s.thn (fun y hy=>cstmt_fn F C hC cb x σ y) A q l ht hl) (fun A q l ht hl=>cbody_step F C hC cb x σ s.Ae s.qe s.els (fun y hy=>cstmt_fn F C hC cb x σ y) A q l ht hl) A q l ht hl
termination_by s=>SizeOf.sizeOf s
decreasing_by
 all_goals
  cases s with
  | mk k n h A q es At qt t Ae qe e=>
    have:=List.sizeOf_lt_of_mem hy
    dsimp only at this
    simp only[St.mk.sizeOf_spec]
    omega
theorem cbody_fn(F:Fl)(C:Cp)(hC:C.Low F)(cb:Nat)(x:Cm)(σ:Scp)(Ab:OA)(qb:Nat)(bs:List St):∀(A:OA) (q:Nat) (l:List Ins),PS.TyL F x σ (St.pL bs)→(l++cB (C.cc F) (St.pL bs) l.length).length≤1000000→Dz 150 [pv cb,vs Ab bs qb] [box cb (cF F (jP C [vs A l q])) 171,rows Ins.cells 116 4 A q l,all (C.kids F),all (lsG encX encT Ab bs)] (fun v Γ'=>∃(A':OA) (q':Nat),Γ'=[box cb (cF F (jP C [vs A' (l++cB (C.cc F) (St.pL bs) l.length) q'])) 171,rows Ins.cells 116 4 A' q' (l++cB (C.cc F) (St.pL bs) l.length),all (C.kids F)]):=fun A q l ht hl=>cbody_step F C hC cb x σ Ab qb bs (fun y hy=>cstmt_fn F C hC cb x σ y) A q l ht hl
end Go.Proofs.YtlihklladkagpaaGreatDoor

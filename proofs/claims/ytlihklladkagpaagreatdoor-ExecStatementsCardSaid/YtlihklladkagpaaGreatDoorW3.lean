/- Own text. -/
import Derived.Test.YtlihklladkagpaaGreatDoorWa
set_option maxHeartbeats 8000000
set_option maxRecDepth 100000
set_option linter.unusedVariables false
set_option linter.unusedSimpArgs false
namespace Go.Proofs.YtlihklladkagpaaGreatDoor
open Go.Proofs.Tryz
open Go.RowKit Go.Flow Go.Mem Go.Sep Go.In
section
variable{cc:Cc}{t e:List PS}{X Y1 Z1 WF:List Ins}
theorem aCc{y:Ins}{B V:List Ins}(hY1:Y1=(X++[y])++B)(hZ1:Z1=Y1++V):Z1[X.length]?=some y:=by rw[hZ1,hY1];exact uU ..
theorem aDp{j:Ins}(hZ1:Z1=(X++[j])++cB cc e (X++[j]).length)(hWF:WF=Z1.set X.length ⟨27,((Z1.length:Nat):Int),0,0⟩)(he:e.isEmpty=false):WF=X++ovr X.length (cB cc e (X.length+1)) e.isEmpty:=by
 rw[Wm]at hZ1
 have hzl:Z1.length=X.length+1+(cB cc e (X.length+1)).length:=by rw[hZ1,lap,Wm]
 rw[hWF,hzl,hZ1,kK,he,aFb];rfl
theorem aDq{y:Ins}{b:Bool}(hY1:Y1=(X++[y])++cB cc t (X++[y]).length)(hZ1:Z1=Y1++ovr Y1.length (cB cc e (Y1.length+1)) b)(hWF:WF=Z1.set X.length ⟨28,((Y1.length+(if b then 0 else 1):Nat):Int),0,0⟩):
    WF=X++(⟨28,((X.length+1+(cB cc t (X.length+1)).length+(if b then 0 else 1):Nat):Int),0,0⟩::(cB cc t (X.length+1)++ovr (X.length+1+(cB cc t (X.length+1)).length) (cB cc e (X.length+1+(cB cc t (X.length+1)).length+1)) b)):=by
 rw[Wm]at hY1
 have hyl:Y1.length=X.length+1+(cB cc t (X.length+1)).length:=by rw[hY1,lap,Wm]
 rw[hyl]at hZ1 hWF
 rw[hWF,hZ1,hY1,uV];simp
theorem aCd{y z:Ins}{V:List Ins}(hZ1:Z1=(X++[y])++V)(hWF:WF=Z1.set X.length z):WF=X++(z::V):=by
 rw[hWF,hZ1,kK,aFb];rfl
end
theorem Yv(F:Fl)(C:Cp)(hC:C.Low F)(cb:Nat)(x:Cm)(σ:Scp)(Ab:OA)(qb:Nat)(bs:List St)(ih:∀y∈bs,∀(A:OA) (q:Nat) (l:List Ins),PS.Ty F x σ y.pure→(l++cS (C.cc F) y.pure l.length).length≤1000000→Dz 183 [pv cb, .agg (Dh y).toArray] [box cb (cF F (jP C [vs A l q])) 171,rows Ins.cells 116 4 A q l,all (C.kids F),all (y.kids Bw Dh)] (fun v Γ'=>∃(A':OA) (q':Nat),Γ'=[box cb (cF F (jP C [vs A' (l++cS (C.cc F) y.pure l.length) q'])) 171,rows Ins.cells 116 4 A' q' (l++cS (C.cc F) y.pure l.length),all (C.kids F)]))(A:OA)(q:Nat)(l:List Ins)(hty:Li F x σ (Ba bs))(hl:(l++cB (C.cc F) (Ba bs) l.length).length≤1000000):
    Dz 150 [pv cb,vs Ab bs qb] [box cb (cF F (jP C [vs A l q])) 171,rows Ins.cells 116 4 A q l,all (C.kids F),all (lsG Bw Dh Ab bs)] (fun v Γ'=>∃(A':OA) (q':Nat),Γ'=[box cb (cF F (jP C [vs A' (l++cB (C.cc F) (Ba bs) l.length) q'])) 171,rows Ins.cells 116 4 A' q' (l++cB (C.cc F) (Ba bs) l.length),all (C.kids F)]):=by
 rw[lap]at hl
 have hal:=NG (C.cc F) bs l.length
 refine Am func150 ntmps150 fun w0=>?_
 refine Js (To.one 3 rfl (ros Dh Ab bs) rfl (aEd ..) (Jz 7 ?_))
 refine Cw (fun s g mz ρ Γ=>∃(Aj:OA) (qj:Nat) (lj:List Ins) (j:Nat),ρ=[s 0,s 6,s 7,(8,nv j)]∧Γ=[box cb (cF F (jP C [vs Aj lj qj])) 171,rows Ins.cells 116 4 Aj qj lj,g 3,g 0,g 4]∧mz=bs.length-j∧(j≤bs.length)∧(lj=l++cB (C.cc F) (Ba (bs.take j)) l.length)) ⟨⟨A,q,l,0,rfl,rfl,rfl,om,((aEz _).symm)⟩,sb⟩ ?_
 rintro mz _ _ ⟨Aj,qj,lj,j,rfl,rfl,rfl,hj,hlj⟩
 have hljl:lj.length=l.length+(cB (C.cc F) (Ba (bs.take j)) l.length).length:=by rw[hlj,lap]
 refine Jz 6 ?_
 refine Jcp rfl ?_ ?_<;>intro c9
 obtain⟨y,hy⟩:=exg bs j om
 have hle:=aCb (C.cc F) l.length hy
 rw[←hljl]at hle
 refine Jz 8 ?_
 refine Jal fun b5=>?_
 refine Jz 3 ?_
 refine Db 5 rfl (y.kids Bw Dh) (St.lax Bw Dh y) (Kw hy) (Jz 3 ?_)
 refine Jcf [2,2,2,0] (ih y (mog hy) Aj qj lj (nI hty (mog hy)) (by rw[lap];omega)) ?_
 rintro _ _ ⟨An,qn,rfl⟩
 refine Jz 8 ?_
 refine Cg ⟨⟨An,qn,(lj++cS (C.cc F) y.pure lj.length),j+1,rfl,rfl,rfl,om,(by rw[BX _ _ hy,←hljl,←aFb,←hlj])⟩,sb⟩
 refine Jz 4 ?_
 refine Er (Dl (Co (.inr rfl) results150 ?_))
 have hE:lj=l++cB (C.cc F) (Ba bs) l.length:=by rw[hlj,aEm om]
 rw[←hE];exact⟨_,_,rfl⟩
theorem kQ(F:Fl)(C:Cp)(hC:C.Low F)(cb:Nat)(x:Cm)(σ:Scp)(Ab:OA)(qb:Nat)(bs:List St)(ih:∀(A:OA) (q:Nat) (l:List Ins),Li F x σ (Ba bs)→(l++cB (C.cc F) (Ba bs) l.length).length≤1000000→Dz 150 [pv cb,vs Ab bs qb] [box cb (cF F (jP C [vs A l q])) 171,rows Ins.cells 116 4 A q l,all (C.kids F),all (lsG Bw Dh Ab bs)] (fun v Γ'=>∃(A':OA) (q':Nat),Γ'=[box cb (cF F (jP C [vs A' (l++cB (C.cc F) (Ba bs) l.length) q'])) 171,rows Ins.cells 116 4 A' q' (l++cB (C.cc F) (Ba bs) l.length),all (C.kids F)]))(X:List Ins)(A:OA)(q:Nat)(hty:Li F x σ (Ba bs))(hl:(X++ovr X.length (cB (C.cc F) (Ba bs) (X.length+1)) (Ba bs).isEmpty).length≤1000000):
    Dz 204 [pv cb,vs Ab bs qb] [box cb (cF F (jP C [vs A X q])) 171,rows Ins.cells 116 4 A q X,all (C.kids F),all (lsG Bw Dh Ab bs)] (fun v Γ'=>∃(A':OA) (q':Nat),v=nv (X.length+(if(Ba bs).isEmpty then 0 else 1))∧Γ'=[box cb (cF F (jP C [vs A' (X++ovr X.length (cB (C.cc F) (Ba bs) (X.length+1)) (Ba bs).isEmpty) q'])) 171,rows Ins.cells 116 4 A' q' (X++ovr X.length (cB (C.cc F) (Ba bs) (X.length+1)) (Ba bs).isEmpty),all (C.kids F)]):=by
 rw[lap]at hl
 have hX1:(X++[(⟨27,0,0,0⟩:Ins)]).length=X.length+1:=Wm ..
 refine Am func204 ntmps204 fun w0=>?_
 refine Jz 13 ?_
 refine Jcp rfl ?_ ?_<;>intro c9
 refine Jz 12 ?_
 refine Dl (Je1 results204 ?_)
 have he:(Ba bs).isEmpty=true:=by rw[Wn];exact aEk om
 have hE:X=X++ovr X.length (cB (C.cc F) (Ba bs) (X.length+1)) (Ba bs).isEmpty:=by rw[he];exact(aEz _).symm
 rw[←hE,he];exact⟨_,_,rfl,rfl⟩
 have hov:=NF X.length (cB (C.cc F) (Ba bs) (X.length+1)) (b:=(Ba bs).isEmpty) (by rw[Wn];exact aEo om)
 refine Jz 5 ?_
 refine Jr (.bd [.int .u8 27,iv 0,iv 0,iv 0]) ?_
 refine Jcf [0,0] (Ho F C hC cb A q X (⟨27,0,0,0⟩:Ins) (by simp only[lap,lc1,ln0];omega)) ?_
 rintro _ _ ⟨An,qn,rfl,rfl⟩
 refine Jz 17 ?_
 refine Jcf [0,0,0,0] (ih An qn (X++[(⟨27,0,0,0⟩:Ins)]) hty (by rw[lap,hX1];omega)) ?_
 rintro _ _ ⟨An_2,qn_2,rfl⟩
 refine Jz 3 ?_
 refine To.nm ?_
 obtain⟨Z1,hZ1⟩:∃z0,z0=((X++[(⟨27,0,0,0⟩:Ins)])++cB (C.cc F) (Ba bs) (X++[(⟨27,0,0,0⟩:Ins)]).length):=⟨_,rfl⟩
 rw[←hZ1]
 refine Jfw [] [0,1,2,4,5,6,7,103,108,9,110,11,512] (ocn _) ?_
 refine Jz 10 ?_
 refine Fw.r rfl (Ga (i:=1) (j:=X.length) rfl rfl rfl s41 rfl (at4 hZ1)) ?_
 refine Jz 1 ?_
 refine Fw.up rfl rfl rfl (Up.store (i:=1) rfl rfl rfl c3 rfl rfl (Qu (f:=1) (y:=(⟨27,0,0,0⟩:Ins)) (z:=(⟨27,((Z1.length:Nat):Int),0,0⟩:Ins)) Zp (at4 hZ1) (by decide) rfl)) (ocn _) ?_
 refine Jz 9 ?_
 refine To.nm ?_
 obtain⟨WF,hWF⟩:∃z0,z0=(Z1.set X.length (⟨27,((Z1.length:Nat):Int),0,0⟩:Ins)):=⟨_,rfl⟩
 rw[←hWF]
 have hlWF:WF.length=Z1.length:=by rw[hWF];exact aEj ..
 (try unfold vs);rw[←hlWF]
 refine Je1 results204 ?_
 have he:(Ba bs).isEmpty=false:=by rw[Wn];exact aEo om
 have hE:WF=X++ovr X.length (cB (C.cc F) (Ba bs) (X.length+1)) (Ba bs).isEmpty:=aDp hZ1 hWF he
 rw[←hE,he];exact⟨_,_,by rw[Wm];rfl,rfl⟩
theorem yN(F:Fl)(C:Cp)(hC:C.Low F)(cb:Nat)(x:Cm)(σ:Scp)(s:St)(ihT:∀(A:OA) (q:Nat) (l:List Ins),Li F x σ (Ba s.thn)→(l++cB (C.cc F) (Ba s.thn) l.length).length≤1000000→Dz 150 [pv cb,vs s.At s.thn s.qt] [box cb (cF F (jP C [vs A l q])) 171,rows Ins.cells 116 4 A q l,all (C.kids F),all (lsG Bw Dh s.At s.thn)] (fun v Γ'=>∃(A':OA) (q':Nat),Γ'=[box cb (cF F (jP C [vs A' (l++cB (C.cc F) (Ba s.thn) l.length) q'])) 171,rows Ins.cells 116 4 A' q' (l++cB (C.cc F) (Ba s.thn) l.length),all (C.kids F)]))(ihE:∀(A:OA) (q:Nat) (l:List Ins),Li F x σ (Ba s.els)→(l++cB (C.cc F) (Ba s.els) l.length).length≤1000000→Dz 150 [pv cb,vs s.Ae s.els s.qe] [box cb (cF F (jP C [vs A l q])) 171,rows Ins.cells 116 4 A q l,all (C.kids F),all (lsG Bw Dh s.Ae s.els)] (fun v Γ'=>∃(A':OA) (q':Nat),Γ'=[box cb (cF F (jP C [vs A' (l++cB (C.cc F) (Ba s.els) l.length) q'])) 171,rows Ins.cells 116 4 A' q' (l++cB (C.cc F) (Ba s.els) l.length),all (C.kids F)]))(A:OA)(q:Nat)(l:List Ins)(hty:PS.Ty F x σ s.pure)(hl:(l++cS (C.cc F) s.pure l.length).length≤1000000):
    Dz 183 [pv cb, .agg (Dh s).toArray] [box cb (cF F (jP C [vs A l q])) 171,rows Ins.cells 116 4 A q l,all (C.kids F),all (s.kids Bw Dh)] (fun v Γ'=>∃(A':OA) (q':Nat),Γ'=[box cb (cF F (jP C [vs A' (l++cS (C.cc F) s.pure l.length) q'])) 171,rows Ins.cells 116 4 A' q' (l++cS (C.cc F) s.pure l.length),all (C.kids F)]):=by
 have hT:=uM hty
 have hEl:(cS (C.cc F) s.pure l.length).length=(cEs (C.cc F) (Cv s.exprs)).length+1+(Sb (C.cc F) s.pure (l.length+(cEs (C.cc F) (Cv s.exprs)).length+1) l.length).length:=by
  rw[qY,lap,lc1,show s.pure.exprs=Cv s.exprs by rw[Nh]]
 rw[lap]at hl
 have hel:=Yu (C.cc F) s.exprs
 refine Am func183 ntmps183 fun w0=>?_
 refine Js (To.g (Jbo fun b3=>?_))
 refine Jz 5 ?_
 refine Jr (.bd [.int .u8 29,iv 0,iv 0,iv 0]) ?_
 refine Jcf [1,1] (Ho F C hC cb A q l (⟨29,0,0,0⟩:Ins) (by simp only[lap,lc1,ln0];omega)) ?_
 rintro _ _ ⟨An,qn,rfl,rfl⟩
 refine Jz 4 ?_
 refine Db 4 rfl (lsF Bw s.A s.exprs) (Ma _ _ _) (Ll s) (Jz 4 ?_)
 refine Jcf [1,1,2,0] (GI F C hC cb s.A s.q s.exprs An qn (l++[(⟨29,0,0,0⟩:Ins)]) (by rw[lap,Wm];omega)) ?_
 rintro _ _ ⟨An_2,qn_2,rfl⟩
 refine Jz 10 ?_
 refine To.nm ?_
 obtain⟨X,hX⟩:∃z0,z0=((l++[(⟨29,0,0,0⟩:Ins)])++cEs (C.cc F) (Cv s.exprs)):=⟨_,rfl⟩
 rw[←hX]
 have hXl:X.length=l.length+1+(cEs (C.cc F) (Cv s.exprs)).length:=by rw[hX,lap,Wm]
 have hfin:=TG (C.cc F) s hX
 have hlen:=congrArg List.length hfin
 rw[lap,lap]at hlen
 refine Jz 5 ?_
 refine Jcp rfl ?_ ?_<;>intro k22
 have hk:s.kind=1:=om
 have htl:=congrArg List.length (VJ (c:=(C.cc F)) (n:=X.length) (top:=l.length) hk)
 rw[List.length_singleton]at htl
 refine To.one 2 rfl (ros aMb C.Av C.vn) rfl (qZ) (Jfw [] [0,1,2,3,5,104,106,307,8,509] (ocn _) ?_)
 refine Jz 7 ?_
 refine Fw.qf (Kl C.Av C.qv C.vn s.name _ hC.v rfl) (ocs (oca 0 rfl) (ocn _)) ?_
 refine Fw.f rfl (.bd [.int .u8 24,iv (oI (ixF s.name 0 C.vn)),iv 0,iv 0]) ?_
 refine Da [1,1] (Ho F C hC cb An_2 qn_2 X (⟨24,oI (ixF s.name 0 C.vn),0,0⟩:Ins) (by simp only[lap,lc1,ln0];omega)) ?_
 rintro _ _ ⟨An_3,qn_3,rfl,rfl⟩
 refine⟨ocn _,?_⟩
 refine Jz 2 ?_
 refine Iu (Er (Cu (Co (.inr rfl) results183 ?_)))
 have hE:X++[(⟨24,oI (ixF s.name 0 C.vn),0,0⟩:Ins)]=l++cS (C.cc F) s.pure l.length:=by rw[hfin,VJ hk];rfl
 rw[←hE];exact⟨_,_,rfl⟩
 refine Jz 6 ?_
 refine Jcp rfl ?_ ?_<;>intro k34
 have hk:s.kind=2:=om
 have htl:=congrArg List.length (VK (c:=(C.cc F)) (n:=X.length) (top:=l.length) hk)
 rw[List.length_singleton]at htl
 refine To.one 2 rfl (ros aMb C.At C.tn) rfl (aQ) (Jfw [] [0,1,2,3,5,104,106,307,8,509] (ocn _) ?_)
 refine Jz 7 ?_
 refine Fw.qf (Kl C.At C.qt C.tn s.name _ hC.t rfl) (ocs (oca 0 rfl) (ocn _)) ?_
 refine Fw.f rfl (.bd [.int .u8 25,iv (oI (ixF s.name 0 C.tn)),iv 0,iv 0]) ?_
 refine Da [1,1] (Ho F C hC cb An_2 qn_2 X (⟨25,oI (ixF s.name 0 C.tn),0,0⟩:Ins) (by simp only[lap,lc1,ln0];omega)) ?_
 rintro _ _ ⟨An_4,qn_4,rfl,rfl⟩
 refine⟨ocn _,?_⟩
 refine Jz 2 ?_
 refine Iu (Er (Cu (Co (.inr rfl) results183 ?_)))
 have hE:X++[(⟨25,oI (ixF s.name 0 C.tn),0,0⟩:Ins)]=l++cS (C.cc F) s.pure l.length:=by rw[hfin,VK hk];rfl
 rw[←hE];exact⟨_,_,rfl⟩
 refine Jz 6 ?_
 refine Jcp rfl ?_ ?_<;>intro k46
 have hk:s.kind=3:=om
 have htl:=congrArg List.length (VL (c:=(C.cc F)) (n:=X.length) (top:=l.length) hk)
 rw[List.length_singleton]at htl
 refine To.one 2 rfl (ros aMb C.At C.tn) rfl (aQ) (Jfw [] [0,1,2,3,5,104,106,307,8,509] (ocn _) ?_)
 refine Jz 7 ?_
 refine Fw.qf (Kl C.At C.qt C.tn s.name _ hC.t rfl) (ocs (oca 0 rfl) (ocn _)) ?_
 refine Fw.f rfl (.bd [.int .u8 26,iv (oI (ixF s.name 0 C.tn)),iv 0,iv 0]) ?_
 refine Da [1,1] (Ho F C hC cb An_2 qn_2 X (⟨26,oI (ixF s.name 0 C.tn),0,0⟩:Ins) (by simp only[lap,lc1,ln0];omega)) ?_
 rintro _ _ ⟨An_5,qn_5,rfl,rfl⟩
 refine⟨ocn _,?_⟩
 refine Jz 2 ?_
 refine Iu (Er (Cu (Co (.inr rfl) results183 ?_)))
 have hE:X++[(⟨26,oI (ixF s.name 0 C.tn),0,0⟩:Ins)]=l++cS (C.cc F) s.pure l.length:=by rw[hfin,VL hk];rfl
 rw[←hE];exact⟨_,_,rfl⟩
 refine Jz 6 ?_
 refine Jcp rfl ?_ ?_<;>intro k58
 have hk:s.kind=4:=om
 have htl:=congrArg List.length (VM (c:=(C.cc F)) (n:=X.length) (top:=l.length) hk)
 rw[lc1,lap]at htl
 refine Jz 3 ?_
 refine Jr (.bd [.int .u8 28,iv 0,iv 0,iv 0]) ?_
 refine Jcf [0,0] (Ho F C hC cb An_2 qn_2 X (⟨28,0,0,0⟩:Ins) (by simp only[lap,lc1,ln0];omega)) ?_
 rintro _ _ ⟨An_6,qn_6,rfl,rfl⟩
 refine Jz 4 ?_
 refine Db 4 rfl (lsG Bw Dh s.At s.thn) (Dx _ _ _ _) (Kj s) ?_
 have hx28:(X++[(⟨28,0,0,0⟩:Ins)]).length=X.length+1:=Wm ..
 refine Jz 4 ?_
 refine Jcf [1,1,1,0] (ihT An_6 qn_6 (X++[(⟨28,0,0,0⟩:Ins)]) hT.2.1 (by rw[lap,hx28];omega)) ?_
 rintro _ _ ⟨An_7,qn_7,rfl⟩
 refine Jz 3 ?_
 refine To.nm ?_
 obtain⟨Y1,hY1⟩:∃z0,z0=((X++[(⟨28,0,0,0⟩:Ins)])++cB (C.cc F) (Ba s.thn) (X++[(⟨28,0,0,0⟩:Ins)]).length):=⟨_,rfl⟩
 rw[←hY1]
 have hyl:Y1.length=X.length+1+(cB (C.cc F) (Ba s.thn) (X.length+1)).length:=by rw[hY1,lap,hx28]
 refine Db 4 rfl (lsG Bw Dh s.Ae s.els) (Dx _ _ _ _) (Ji s) (Jz 4 ?_)
 refine Jcf [1,1,1,0] (kQ F C hC cb x σ s.Ae s.qe s.els ihE Y1 An_7 qn_7 hT.2.2 (by rw[lap,hyl];omega)) ?_
 rintro _ _ ⟨An_8,qn_8,rfl,rfl⟩
 refine Jz 3 ?_
 refine To.nm ?_
 obtain⟨Z1,hZ1⟩:∃z0,z0=(Y1++ovr Y1.length (cB (C.cc F) (Ba s.els) (Y1.length+1)) (Ba s.els).isEmpty):=⟨_,rfl⟩
 rw[←hZ1]
 refine Jz 7 ?_
 refine Jr (Ga (i:=1) (j:=X.length) rfl rfl rfl s41 rfl (aCc hY1 hZ1)) ?_
 refine Jz 1 ?_
 refine To.u (Up.store (i:=1) rfl rfl rfl c3 rfl rfl (Qu (f:=1) (y:=(⟨28,0,0,0⟩:Ins)) (z:=(⟨28,(((Y1.length+(if(Ba s.els).isEmpty then 0 else 1)):Nat):Int),0,0⟩:Ins)) Zp (aCc hY1 hZ1) (by decide) rfl)) ?_
 refine Jn (Jbn (To.nm ?_))
 obtain⟨WF,hWF⟩:∃z0,z0=(Z1.set X.length (⟨28,(((Y1.length+(if(Ba s.els).isEmpty then 0 else 1)):Nat):Int),0,0⟩:Ins)):=⟨_,rfl⟩
 rw[←hWF]
 have hlWF:WF.length=Z1.length:=by rw[hWF];exact aEj ..
 (try unfold vs);rw[←hlWF]
 refine Er (Dl (Co (.inr rfl) results183 ?_))
 have hE:WF=l++cS (C.cc F) s.pure l.length:=by rw[hfin,VM hk];exact aDq hY1 hZ1 hWF
 rw[←hE];exact⟨_,_,rfl⟩
 refine Jz 6 ?_
 refine Jcp rfl ?_ ?_<;>intro k79
 have hk:s.kind=5:=om
 have htl:=congrArg List.length (VN (c:=(C.cc F)) (n:=X.length) (top:=l.length) hk)
 rw[lc1,lap,List.length_singleton]at htl
 refine Jz 3 ?_
 refine Jr (.bd [.int .u8 28,iv 0,iv 0,iv 0]) ?_
 refine Jcf [0,0] (Ho F C hC cb An_2 qn_2 X (⟨28,0,0,0⟩:Ins) (by simp only[lap,lc1,ln0];omega)) ?_
 rintro _ _ ⟨An_9,qn_9,rfl,rfl⟩
 refine Jz 4 ?_
 refine Db 4 rfl (lsG Bw Dh s.At s.thn) (Dx _ _ _ _) (Kj s) ?_
 have hx28:(X++[(⟨28,0,0,0⟩:Ins)]).length=X.length+1:=Wm ..
 refine Jz 4 ?_
 refine Jcf [1,1,1,0] (ihT An_9 qn_9 (X++[(⟨28,0,0,0⟩:Ins)]) hT.2.1 (by rw[lap,hx28];omega)) ?_
 rintro _ _ ⟨An_10,qn_10,rfl⟩
 refine Jz 3 ?_
 refine To.nm ?_
 obtain⟨Y1,hY1⟩:∃z0,z0=((X++[(⟨28,0,0,0⟩:Ins)])++cB (C.cc F) (Ba s.thn) (X++[(⟨28,0,0,0⟩:Ins)]).length):=⟨_,rfl⟩
 rw[←hY1]
 have hyl:Y1.length=X.length+1+(cB (C.cc F) (Ba s.thn) (X.length+1)).length:=by rw[hY1,lap,hx28]
 refine Jz 3 ?_
 refine Jr (.bd [.int .u8 27,nv l.length,iv 0,iv 0]) ?_
 refine Jcf [0,0] (Ho F C hC cb An_10 qn_10 Y1 (⟨27,((l.length:Nat):Int),0,0⟩:Ins) (by simp only[lap,lc1,ln0];omega)) ?_
 rintro _ _ ⟨An_11,qn_11,rfl,rfl⟩
 refine Jn (Jt (Jfw [] [0,1,2,4,5,6,7,103,108,9,110,11,512] (ocn _) ?_))
 refine Jz 10 ?_
 refine Fw.r rfl (Ga (i:=1) (j:=X.length) rfl rfl rfl s41 rfl (aCa hY1)) ?_
 refine Jz 1 ?_
 refine Fw.up rfl rfl rfl (Up.store (i:=1) rfl rfl rfl c3 rfl rfl (Qu (f:=1) (y:=(⟨28,0,0,0⟩:Ins)) (z:=(⟨28,(((Y1++[(⟨27,((l.length:Nat):Int),0,0⟩:Ins)]).length:Nat):Int),0,0⟩:Ins)) Zp (aCa hY1) (by decide) rfl)) (ocn _) ?_
 refine Jz 2 ?_
 refine To.nm ?_
 obtain⟨WF,hWF⟩:∃z0,z0=((Y1++[(⟨27,((l.length:Nat):Int),0,0⟩:Ins)]).set X.length (⟨28,(((Y1++[(⟨27,((l.length:Nat):Int),0,0⟩:Ins)]).length:Nat):Int),0,0⟩:Ins)):=⟨_,rfl⟩
 rw[←hWF]
 have hlWF:WF.length=(Y1++[(⟨27,((l.length:Nat):Int),0,0⟩:Ins)]).length:=by rw[hWF];exact aEj ..
 (try unfold vs);rw[←hlWF]
 refine Er (Dl (Co (.inr rfl) results183 ?_))
 have hE:WF=l++cS (C.cc F) s.pure l.length:=by rw[hfin,VN hk];exact aDo hY1 hWF
 rw[←hE];exact⟨_,_,rfl⟩
 refine Jz 6 ?_
 refine Jcp rfl ?_ ?_<;>intro k104
 have hk:s.kind=6:=om
 have htl:=congrArg List.length (VO (c:=(C.cc F)) (n:=X.length) (top:=l.length) hk)
 rw[List.length_singleton]at htl
 obtain⟨c,h',hfc,hfh,hhl⟩:=hT.1.k6 hk
 obtain⟨to,hto,hcm⟩:=VS (f:=Cm.name) (k:=0) hfc
 rw[aFl]at hto
 have htl2:to<C.hs.length:=by rw[hC.h];exact(aEc.1 hcm).1
 obtain⟨hn,hhn⟩:∃hn,C.hs[to]?=some hn:=⟨_,gge htl2⟩
 have htg:(C.cc F).tg s.name s.hand=(((to:Nat):Int),oI (ixF s.hand 0 hn.l)):=by
  show(oI (ixF s.name 0 (F.comps.map Cm.name)),oI (ixF s.hand 0 (uX C (oI (ixF s.name 0 (F.comps.map Cm.name))).toNat)))=_
  rw[hto]
  show(((to:Nat):Int),oI (ixF s.hand 0 (uX C to)))=_
  rw[CE hhn]
 refine Js (To.one 2 rfl (ros Jl F.Ac F.comps) rfl (TK) (Md (Zh (Jz 6 ?_))))
 refine Jr (Rd.makeFunc rfl rfl rfl) ?_
 refine Jvf (GH b3 s F.Ac F.qc F.comps (some to) hC.c hto) rfl (ocs (oca 1 rfl) (ocs (oca 0 rfl) (ocn _))) ?_
 refine Jz 3 ?_
 refine To.one 4 rfl (ros Va C.Ah C.hs) rfl (BZ) (To.one 5 rfl (ros aMb hn.A hn.l) rfl (CB hhn) (Jfw [] [0,1,2,3,4,6,9,12,105,107,108,110,311,113,14,15,516] (ocn _) ?_))
 refine Jz 11 ?_
 refine Fw.r rfl (Ck (i:=2) rfl rfl c9 rfl (Iq (A:=some ⟨b3,0,none⟩) (o:=2) (k:=1) rfl)) ?_
 refine Fw.qf (Kl hn.A hn.q hn.l s.hand _ (hC.each hn (mog hhn)) rfl) (ocs (oca 0 rfl) (ocn _)) ?_
 refine Fw.r rfl (Ck (i:=2) rfl rfl Xk rfl (Iq (A:=some ⟨b3,0,none⟩) (o:=3) (k:=1) rfl)) ?_
 refine Jz 1 ?_
 refine Fw.f rfl (.bd [.int .u8 30,nv to,iv (oI (ixF s.hand 0 hn.l)),nv s.exprs.length]) ?_
 refine Da [4,4] (Ho F C hC cb An_2 qn_2 X (⟨30,((to:Nat):Int),oI (ixF s.hand 0 hn.l),((s.exprs.length:Nat):Int)⟩:Ins) (by simp only[lap,lc1,ln0];omega)) ?_
 rintro _ _ ⟨An_12,qn_12,rfl,rfl⟩
 refine⟨ocn _,?_⟩
 refine Jz 2 ?_
 refine Xp (Iu (Er (Dl (Cu (Co (.inr rfl) results183 ?_)))))
 have hE:X++[(⟨30,((to:Nat):Int),oI (ixF s.hand 0 hn.l),((s.exprs.length:Nat):Int)⟩:Ins)]=l++cS (C.cc F) s.pure l.length:=by rw[hfin,VO hk];rw[htg]
 rw[←hE];exact⟨_,_,rfl⟩
 refine Jz 6 ?_
 refine Jcp rfl ?_ ?_<;>intro k130
 have hk:s.kind=7:=om
 have htl:=congrArg List.length (VP (c:=(C.cc F)) (n:=X.length) (top:=l.length) hk)
 rw[List.length_singleton]at htl
 obtain⟨hn,hhn⟩:∃hn,C.hs[C.own]?=some hn:=⟨_,gge hC.o⟩
 have htg:(C.cc F).ah s.hand=oI (ixF s.hand 0 hn.l):=by
  show oI (ixF s.hand 0 (uX C C.own))=_
  rw[CE hhn]
 refine To.one 2 rfl (ros Va C.Ah C.hs) rfl (BZ) (To.one 3 rfl (ros aMb hn.A hn.l) rfl (CB hhn) (Jfw [] [0,1,2,3,5,6,7,11,14,104,108,109,110,112,313,115,16,17,18,519] (ocn _) ?_))
 refine Jz 14 ?_
 refine Fw.qf (Kl hn.A hn.q hn.l s.hand _ (hC.each hn (mog hhn)) rfl) (ocs (oca 0 rfl) (ocn _)) ?_
 refine Jz 2 ?_
 refine Fw.f rfl (Gi rfl rfl rfl om) ?_
 refine Fw.f rfl (.bd [.int .u8 31,iv 0,iv (oI (ixF s.hand 0 hn.l)),iv (((s.exprs.length:Nat):Int)-1)]) ?_
 refine Da [2,2] (Ho F C hC cb An_2 qn_2 X (⟨31,0,oI (ixF s.hand 0 hn.l),((s.exprs.length:Nat):Int)-1⟩:Ins) (by simp only[lap,lc1,ln0];omega)) ?_
 rintro _ _ ⟨An_13,qn_13,rfl,rfl⟩
 refine⟨ocn _,?_⟩
 refine Jz 2 ?_
 refine Lj (Iu (Dl (Cu (Co (.inr rfl) results183 ?_))))
 have hE:X++[(⟨31,0,oI (ixF s.hand 0 hn.l),((s.exprs.length:Nat):Int)-1⟩:Ins)]=l++cS (C.cc F) s.pure l.length:=by rw[hfin,VP hk];rw[htg]
 rw[←hE];exact⟨_,_,rfl⟩
 refine Jz 6 ?_
 refine Jcp rfl ?_ ?_<;>intro k152
 have hk:s.kind=8:=om
 have htl:=congrArg List.length (VQ (c:=(C.cc F)) (n:=X.length) (top:=l.length) hk)
 rw[lc1]at htl
 refine Jz 3 ?_
 refine Jr (.bd [.int .u8 32,iv 0,iv 0,iv 0]) ?_
 refine Jcf [0,0] (Ho F C hC cb An_2 qn_2 X (⟨32,0,0,0⟩:Ins) (by simp only[lap,lc1,ln0];omega)) ?_
 rintro _ _ ⟨An_14,qn_14,rfl,rfl⟩
 refine Jz 4 ?_
 refine Db 4 rfl (lsG Bw Dh s.Ae s.els) (Dx _ _ _ _) (Ji s) (Jz 4 ?_)
 refine Jcf [1,1,1,0] (kQ F C hC cb x σ s.Ae s.qe s.els ihE (X++[(⟨32,0,0,0⟩:Ins)]) An_14 qn_14 hT.2.2 (by rw[lap,Wm,show X.length+1+1=X.length+2 from rfl];omega)) ?_
 rintro _ _ ⟨An_15,qn_15,rfl,rfl⟩
 refine Jz 3 ?_
 refine To.nm ?_
 obtain⟨Z1,hZ1⟩:∃z0,z0=((X++[(⟨32,0,0,0⟩:Ins)])++ovr (X++[(⟨32,0,0,0⟩:Ins)]).length (cB (C.cc F) (Ba s.els) ((X++[(⟨32,0,0,0⟩:Ins)]).length+1)) (Ba s.els).isEmpty):=⟨_,rfl⟩
 rw[←hZ1]
 refine Jz 7 ?_
 refine Jr (Ga (i:=1) (j:=X.length) rfl rfl rfl s41 rfl (at4 hZ1)) ?_
 refine Jz 1 ?_
 refine To.u (Up.store (i:=1) rfl rfl rfl c3 rfl rfl (Qu (f:=2) (y:=(⟨32,0,0,0⟩:Ins)) (z:=(⟨32,0,((((X++[(⟨32,0,0,0⟩:Ins)]).length+(if(Ba s.els).isEmpty then 0 else 1)):Nat):Int),0⟩:Ins)) Zp (at4 hZ1) (by decide) rfl)) ?_
 refine Jn (Jbn (To.nm ?_))
 obtain⟨WF,hWF⟩:∃z0,z0=(Z1.set X.length (⟨32,0,((((X++[(⟨32,0,0,0⟩:Ins)]).length+(if(Ba s.els).isEmpty then 0 else 1)):Nat):Int),0⟩:Ins)):=⟨_,rfl⟩
 rw[←hWF]
 have hlWF:WF.length=Z1.length:=by rw[hWF];exact aEj ..
 (try unfold vs);rw[←hlWF]
 refine Er (Dl (Co (.inr rfl) results183 ?_))
 have hE:WF=l++cS (C.cc F) s.pure l.length:=by rw[hfin,VQ hk];rw[Wm]at hZ1 hWF;exact aCd hZ1 hWF
 rw[←hE];exact⟨_,_,rfl⟩
 refine Jz 6 ?_
 refine Jcp rfl ?_ ?_<;>intro k169
 have hk:s.kind=9:=om
 have htl:=congrArg List.length (VR (c:=(C.cc F)) (n:=X.length) (top:=l.length) hk)
 rw[lc1]at htl
 refine Js (To.one 2 rfl (ros aMb C.Av C.vn) rfl (qZ) (Jfw [] [0,1,2,3,5,104,106,307,8,509,10] (ocn _) ?_))
 refine Jz 7 ?_
 refine Fw.qf (Kl C.Av C.qv C.vn s.name _ hC.v rfl) (ocs (oca 0 rfl) (ocn _)) ?_
 refine Fw.f rfl (.bd [.int .u8 33,iv (oI (ixF s.name 0 C.vn)),iv 0,iv 0]) ?_
 refine Da [1,1] (Ho F C hC cb An_2 qn_2 X (⟨33,oI (ixF s.name 0 C.vn),0,0⟩:Ins) (by simp only[lap,lc1,ln0];omega)) ?_
 rintro _ _ ⟨An_16,qn_16,rfl,rfl⟩
 refine⟨ocn _,?_⟩
 refine Jz 4 ?_
 refine Db 5 rfl (lsG Bw Dh s.Ae s.els) (Dx _ _ _ _) (Ji s) (Jz 4 ?_)
 refine Jcf [1,1,2,0] (kQ F C hC cb x σ s.Ae s.qe s.els ihE (X++[(⟨33,oI (ixF s.name 0 C.vn),0,0⟩:Ins)]) An_16 qn_16 hT.2.2 (by rw[lap,Wm,show X.length+1+1=X.length+2 from rfl];omega)) ?_
 rintro _ _ ⟨An_17,qn_17,rfl,rfl⟩
 refine Jz 3 ?_
 refine To.nm ?_
 obtain⟨Z1,hZ1⟩:∃z0,z0=((X++[(⟨33,oI (ixF s.name 0 C.vn),0,0⟩:Ins)])++ovr (X++[(⟨33,oI (ixF s.name 0 C.vn),0,0⟩:Ins)]).length (cB (C.cc F) (Ba s.els) ((X++[(⟨33,oI (ixF s.name 0 C.vn),0,0⟩:Ins)]).length+1)) (Ba s.els).isEmpty):=⟨_,rfl⟩
 rw[←hZ1]
 refine Jz 7 ?_
 refine Jr (Ga (i:=1) (j:=X.length) rfl rfl rfl s41 rfl (at4 hZ1)) ?_
 refine Jz 1 ?_
 refine To.u (Up.store (i:=1) rfl rfl rfl c3 rfl rfl (Qu (f:=2) (y:=(⟨33,oI (ixF s.name 0 C.vn),0,0⟩:Ins)) (z:=(⟨33,oI (ixF s.name 0 C.vn),((((X++[(⟨33,oI (ixF s.name 0 C.vn),0,0⟩:Ins)]).length+(if(Ba s.els).isEmpty then 0 else 1)):Nat):Int),0⟩:Ins)) Zp (at4 hZ1) (by decide) rfl)) ?_
 refine Jn (Jbn (To.nm ?_))
 obtain⟨WF,hWF⟩:∃z0,z0=(Z1.set X.length (⟨33,oI (ixF s.name 0 C.vn),((((X++[(⟨33,oI (ixF s.name 0 C.vn),0,0⟩:Ins)]).length+(if(Ba s.els).isEmpty then 0 else 1)):Nat):Int),0⟩:Ins)):=⟨_,rfl⟩
 rw[←hWF]
 have hlWF:WF.length=Z1.length:=by rw[hWF];exact aEj ..
 (try unfold vs);rw[←hlWF]
 refine Iu (Er (Dl (Co (.inr rfl) results183 ?_)))
 have hE:WF=l++cS (C.cc F) s.pure l.length:=by rw[hfin,VR hk];rw[Wm]at hZ1 hWF;exact aCd hZ1 hWF
 rw[←hE];exact⟨_,_,rfl⟩
 refine Jz 6 ?_
 refine Jcp rfl ?_ ?_<;>intro k193
 have hk:s.kind=10:=om
 have htl:=congrArg List.length (NE (c:=(C.cc F)) (n:=X.length) (top:=l.length) hk)
 rw[List.length_singleton]at htl
 refine Jz 2 ?_
 refine Jr (.bd [.int .u8 34,iv 0,iv 0,iv 0]) ?_
 refine Jcf [0,0] (Ho F C hC cb An_2 qn_2 X (⟨34,0,0,0⟩:Ins) (by simp only[lap,lc1,ln0];omega)) ?_
 rintro _ _ ⟨An_18,qn_18,rfl,rfl⟩
 refine Jn (Jbn (Er (Dl (Co (.inr rfl) results183 ?_))))
 have hE:X++[(⟨34,0,0,0⟩:Ins)]=l++cS (C.cc F) s.pure l.length:=by rw[hfin,NE hk]
 rw[←hE];exact⟨_,_,rfl⟩
 refine Jz 2 ?_
 refine Er (Dl (Co (.inr rfl) results183 ?_))
 have hk:¬s.kind=1∧¬s.kind=2∧¬s.kind=3∧¬s.kind=4∧¬s.kind=5∧¬s.kind=6∧¬s.kind=7∧¬s.kind=8∧¬s.kind=9∧¬s.kind=10:=om
 have hE:X=l++cS (C.cc F) s.pure l.length:=by rw[hfin,aBz hk];exact(aEz _).symm
 rw[←hE];exact⟨_,_,rfl⟩
theorem kR(F:Fl)(C:Cp)(hC:C.Low F)(cb:Nat)(x:Cm)(σ:Scp):∀s:St,∀(A:OA) (q:Nat) (l:List Ins),PS.Ty F x σ s.pure→(l++cS (C.cc F) s.pure l.length).length≤1000000→Dz 183 [pv cb, .agg (Dh s).toArray] [box cb (cF F (jP C [vs A l q])) 171,rows Ins.cells 116 4 A q l,all (C.kids F),all (s.kids Bw Dh)] (fun v Γ'=>∃(A':OA) (q':Nat),Γ'=[box cb (cF F (jP C [vs A' (l++cS (C.cc F) s.pure l.length) q'])) 171,rows Ins.cells 116 4 A' q' (l++cS (C.cc F) s.pure l.length),all (C.kids F)])
 |s,A,q,l,ht,hl=>yN F C hC cb x σ s (fun A q l ht hl=>Yv F C hC cb x σ s.At s.qt s.thn (fun y hy=>kR F C hC cb x σ y) A q l ht hl) (fun A q l ht hl=>Yv F C hC cb x σ s.Ae s.qe s.els (fun y hy=>kR F C hC cb x σ y) A q l ht hl) A q l ht hl
termination_by s=>SizeOf.sizeOf s
decreasing_by
 all_goals
  cases s with
  | mk k n h A q es At qt t Ae qe e=>
    have:=aFq hy
    dsimp only at this
    simp only[St.mk.sizeOf_spec]
    omega
theorem NM(F:Fl)(C:Cp)(hC:C.Low F)(cb:Nat)(x:Cm)(σ:Scp)(Ab:OA)(qb:Nat)(bs:List St):∀(A:OA) (q:Nat) (l:List Ins),Li F x σ (Ba bs)→(l++cB (C.cc F) (Ba bs) l.length).length≤1000000→Dz 150 [pv cb,vs Ab bs qb] [box cb (cF F (jP C [vs A l q])) 171,rows Ins.cells 116 4 A q l,all (C.kids F),all (lsG Bw Dh Ab bs)] (fun v Γ'=>∃(A':OA) (q':Nat),Γ'=[box cb (cF F (jP C [vs A' (l++cB (C.cc F) (Ba bs) l.length) q'])) 171,rows Ins.cells 116 4 A' q' (l++cB (C.cc F) (Ba bs) l.length),all (C.kids F)]):=fun A q l ht hl=>Yv F C hC cb x σ Ab qb bs (fun y hy=>kR F C hC cb x σ y) A q l ht hl
end Go.Proofs.YtlihklladkagpaaGreatDoor

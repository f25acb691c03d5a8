/- Own text. -/
import Derived.Test.YtlihklladkagpaaGreatDoorQa
set_option maxHeartbeats 8000000
set_option maxRecDepth 100000
set_option linter.unusedVariables false
set_option linter.unusedSimpArgs false
namespace Go.Sep
open Go.RowKit Go.Flow Go.Mem
theorem aO{P:Program}{o:Oper}{ρ:Cb}{Γ:List Ai}{x y:Operand}{α:Type}{enc:α→List Value}{size:Nat}(E:Enc enc size){t e:TypeId}{bytes:Nat}{zs:List Value}{B:OA}{cb:Nat}{m:List α}(ho:o.op= .call {callee:= .builtin .append,args:=#[x,y],argTypes:=#[t,t]})(ht:Ci P t e size bytes zs)
    (hx:ev ρ x=some (nz)) (hy:ev ρ y=some (vs B m cb)) (hs:∀w,oks Γ w→Src w B (m.flatMap enc)) (h63:m.length≤9223372036854775807) (hby:m.length*bytes≤140737488355328):
    Mk P o ρ Γ (fun v N=>∃A' cap',v=vs A' m cap'∧N=[rows enc e size A' cap' m]):=by
 rcases Nat.eq_zero_or_pos m.length with h0|h0
 · have hm:m=[]:=aFp h0
   subst hm
   intro a w ha hG
   have hrd:=Rt (P:=P) (Γ:=Γ) ho ht hx hy h0 (aEu 0) a w ha hG
   refine⟨.slice none 0 0,[rows enc e size none 0 ([]:List α)],w,hrd,⟨none,0,rfl,rfl⟩,⟨⟨fun c hc=>?_,by simp[owns,rows,row,Ny],by simp[reads,rows,row]⟩,Ey.refl _ _,fun g hg=>by simp[owns,rows,row,Ny]at hg,by simp[reads,rows,row]⟩⟩
   rw[aEr.1 hc]
   exact World.ownsRow_nil w 0 e size
 ·exact Ov E ho ht hx hy hs h0 h63 hby
end Go.Sep
namespace Go.Proofs.YtlihklladkagpaaGreatDoor
open Go.RowKit Go.Flow Go.Mem Go.Sep Go.In
section
variable{C:Cx}{ρ:Cb}{Γ:List Ai}{K:Act→World→Prop}
theorem Xv{α:Type}{f:α→List Ai}(O:List α)(x:α)(k:To C ρ (all ((O++[x]).flatMap f)::Γ) K):To C ρ (all (f x)::all (O.flatMap f)::Γ) K:=by
 refine To.perm (aFc _ _ _) (Kq ?_)
 rw[aFe,show[x].flatMap f=f x from aEz _]at k
 exact k
theorem XO(k:Xl)(h:Hd){ty:TypeId}(kk:To C ρ (all (h.kids k)::Γ) K):To C ρ (rows encZ ty 1 h.Ap h.qp h.ps::all (lsG k.f k.g h.Ab h.body)::Γ) K:=Cq (Dn kk)
theorem XP(k:Xl)(v:Vs){ty:TypeId}(kk:To C ρ (all (v.kids k)::Γ) K):To C ρ (rows Me ty 3 v.A v.q v.l::all (v.l.flatMap (Hd.kids k))::Γ) K:=Cq (Dn kk)
theorem XQ(k:Xl)(c:Cm){t1 t2:TypeId}{z:Nat}(kk:To C ρ (all (c.kids k)::Γ) K):To C ρ (rows k.v t1 z c.Av c.qv c.vars::rows Ik t2 1 c.An c.qn c.vers::all (c.vers.flatMap (Vs.kids k))::Γ) K:=by
 refine Cq (To.perm (Γ':=rows Ik t2 1 c.An c.qn c.vers::all (c.vers.flatMap (Vs.kids k))::ros k.v c.Av c.vars::Γ) ?_ (Cq (Dn ?_)))
 ·exact(aEl (l₁:=[_,_])).symm
 exact To.perm (aFc _ _ _) (Dn kk)
theorem XR(k:Xl)(f:Fl){t1 t2 t3:TypeId}(kk:To C ρ (all (f.kids k)::Γ) K):To C ρ (rows Gx t1 2 f.Af f.qf f.flags::rows Lb t2 3 f.Al f.ql f.links::rows Jl t3 3 f.Ac f.qc f.comps::all (f.comps.flatMap (Cm.kids k))::Γ) K:=by
 refine Cq (To.perm (Γ':=rows Lb t2 3 f.Al f.ql f.links::rows Jl t3 3 f.Ac f.qc f.comps::all (f.comps.flatMap (Cm.kids k))::ros Gx f.Af f.flags::Γ) ?_ (Cq ?_))
 ·exact(aEl (l₁:=[_,_,_])).symm
 refine To.perm (Γ':=rows Jl t3 3 f.Ac f.qc f.comps::all (f.comps.flatMap (Cm.kids k))::ros Lb f.Al f.links::ros Gx f.Af f.flags::Γ) ?_ (Cq (Dn (To.perm (aFc _ _ _) (Dn ?_))))
 ·exact(aEl (l₁:=[_,_])).symm
 exact To.perm (aFc _ _ _) (Dn kk)
end
theorem xY{C:Cx}{ρ:Cb}{Γ:List Ai}{K:Act→World→Prop}{α:Type}{enc:α→List Value}{e:TypeId}{size cap:Nat}{A:OA}{l:List α}(i:Nat)(hi:Γ[i]?=some (rows enc e size A cap l))(k:l.length≤cap→To C ρ Γ K):To C ρ Γ K:=Lt (fun w hw=>by
 obtain⟨A',c',h,_,h2,_⟩:=Qn (hw.each _ (mog hi))
 injection h with _ _ h
 rw[h];exact h2) k
def Vs.Cap(v:Vs):Prop:=v.l.length≤v.q∧∀h∈v.l,h.ps.length≤h.qp
def Cm.Cap(c:Cm):Prop:=(c.vars.length≤c.qv∧c.vers.length≤c.qn)∧∀v∈c.vers,v.Cap
def Fl.Cap(F:Fl):Prop:=(F.flags.length≤F.qf∧F.links.length≤F.ql∧F.comps.length≤F.qc)∧∀c∈F.comps,c.Cap
theorem qQ{α:Type}{p:α→Prop}{l:List α}{x:α}(h:∀y∈l,p y)(hx:p x):∀y∈l++[x],p y:=fun y hy=>(aFi.1 hy).elim (h y) fun hy=>by rw[aEr.1 hy];exact hx
section
variable{k:Xl}{F:Fl}{c:Cm}{v:Vs}{h:Hd}{i:Nat}
theorem Qh:ros Gx F.Af F.flags∈F.kids k:=aEd ..
theorem Uq:ros Lb F.Al F.links∈F.kids k:=aEb _ (aEd ..)
theorem Jc:ros Jl F.Ac F.comps∈F.kids k:=aEb _ (aEb _ (aEd ..))
theorem Fj(hc:F.comps[i]?=some c):∀z∈c.kids k,z∈F.kids k:=fun z hz=>aEb _ (aEb _ (aEb _ (aEy.2 ⟨c,mog hc,hz⟩)))
theorem Rj:ros k.v c.Av c.vars∈c.kids k:=aEd ..
theorem Lm:ros Ik c.An c.vers∈c.kids k:=aEb _ (aEd ..)
theorem Ky(hv:c.vers[i]?=some v):∀z∈v.kids k,z∈c.kids k:=fun z hz=>aEb _ (aEb _ (aEy.2 ⟨v,mog hv,hz⟩))
theorem Wl:ros Me v.A v.l∈v.kids k:=aEd ..
theorem Ur(hh:v.l[i]?=some h):∀z∈h.kids k,z∈v.kids k:=fun z hz=>aEb _ (aEy.2 ⟨h,mog hh,hz⟩)
theorem fI:ros encZ h.Ap h.ps∈h.kids k:=aEd ..
theorem Rk:∀z∈lsG k.f k.g h.Ab h.body,z∈h.kids k:=fun z hz=>aEb _ hz
end
structure aBs(F:Fl):Prop where
 flags:F.flags.length≤2
 links:F.links.length≤9
 comps:F.comps.length≤3
 vars:∀c∈F.comps,c.vars.length≤5∧∀v∈c.vars,v.ty≤3
 vers:∀c∈F.comps,c.vers.length≤2∧∀v∈c.vers,v.l.length≤3∧∀h∈v.l,h.ps.length≤2∧h.body.length≤12∧Dy (Ba h.body)
theorem xZ(F:Fl)(hF:aBs F):
    Does Tryz.prog 27 [.agg (cF F []).toArray] [all (F.kids eR)] (fun v Γ'=>∃F':Fl,v= .agg F'.cells.toArray∧Γ'=[all (F'.kids eX)]∧F'.Cap∧F'.pure=F.pure):=by
 have hfl:=hF.flags
 have hlk:=hF.links
 have hcm:=hF.comps
 refine Am Tryz.func27 Tryz.ntmps27 fun w0=>?_
 refine Js (To.g (Jbo fun b1=>?_))
 refine Jal fun b2=>?_
 refine Jz 6 ?_
 refine Jr (.bd [.string F.name,nz,nz,nz]) ?_
 refine Jal fun b3=>?_
 refine Jz 5 ?_
 refine To.one 3 rfl (ros Gx F.Af F.flags) rfl (Qh) (Jz 8 ?_)
 refine Cz (Gx) 185 2 (Cw (fun s g mz ρ Γ=>∃(Af:OA) (qf:Nat) (Fs:List Fg) (kf:Nat),ρ=[s 1,s 2,s 3,(22,vs F.Af F.flags F.qf),s 23,(24,nv kf)]∧Γ=[g 4,g 3,box b3 [.string F.name,vs Af Fs qf,nz,nz] 108,ros Gx F.Af F.flags,g 5,rows Gx 185 2 Af qf Fs]∧mz=F.flags.length-kf∧(kf≤F.flags.length)∧(Fs=F.flags.take kf)) ⟨⟨none,0,([]:List Fg),0,rfl,rfl,rfl,om,rfl⟩,sb⟩ ?_)
 rintro mz _ _ ⟨Af,qf,Fs,kf,rfl,rfl,rfl,hkf,hFs⟩
 have hFl:Fs.length≤2:=by rw[hFs,aEe];omega
 refine Jz 6 ?_
 refine Jcp rfl ?_ ?_<;>intro c25
 obtain⟨y,hy⟩:=exg F.flags kf om
 refine Jz 8 ?_
 refine Jal fun b5=>?_
 refine Jz 10 ?_
 refine Jr (.bd [.string y.name, .bool y.init]) ?_
 refine Eg [.string y.name, .bool y.init] fun b35=>?_
 refine Jge rfl rfl rfl (Bg tN (i:=7) (j:=0) (el:=y) rfl aAc rfl rfl rfl rfl rfl om om) ?_
 rintro _ _ ⟨A36,q36,rfl,rfl⟩
 refine Jz 10 ?_
 refine Cg ⟨⟨A36,q36,(Fs++[y]),kf+1,rfl,rfl,rfl,om,(by rw[Cf hy,←hFs])⟩,sb⟩
 refine Jz 7 ?_
 refine To.one 4 rfl (ros Lb F.Al F.links) rfl (Uq) (Jz 8 ?_)
 refine Cz (Lb) 186 3 (Cw (fun s g mz ρ Γ=>∃(Al:OA) (ql:Nat) (Ls:List Lk) (kl:Nat),ρ=[s 1,s 2,s 3,(40,vs F.Al F.links F.ql),s 41,(42,nv kl)]∧Γ=[g 2,g 3,box b3 [.string F.name,vs Af Fs qf,vs Al Ls ql,nz] 108,g 7,ros Lb F.Al F.links,g 6,rows Lb 186 3 Al ql Ls]∧mz=F.links.length-kl∧(kl≤F.links.length)∧(Ls=F.links.take kl)) ⟨⟨none,0,([]:List Lk),0,rfl,rfl,rfl,om,rfl⟩,sb⟩ ?_)
 rintro mz _ _ ⟨Al,ql,Ls,kl,rfl,rfl,rfl,hkl,hLs⟩
 have hLl:Ls.length≤9:=by rw[hLs,aEe];omega
 refine Jz 6 ?_
 refine Jcp rfl ?_ ?_<;>intro c43
 obtain⟨y,hy⟩:=exg F.links kl om
 refine Jz 8 ?_
 refine Jal fun b7=>?_
 refine Jz 12 ?_
 refine Jr (.bd [.string y.src, .string y.dst,iv y.lat]) ?_
 refine Eg [.string y.src, .string y.dst,iv y.lat] fun b55=>?_
 refine Jge rfl rfl rfl (Bg tO (i:=8) (j:=0) (el:=y) rfl aAd rfl rfl rfl rfl rfl om om) ?_
 rintro _ _ ⟨A56,q56,rfl,rfl⟩
 refine Jz 10 ?_
 refine Cg ⟨⟨A56,q56,(Ls++[y]),kl+1,rfl,rfl,rfl,om,(by rw[Cf hy,←hLs])⟩,sb⟩
 refine Jz 7 ?_
 refine To.one 5 rfl (ros Jl F.Ac F.comps) rfl (Jc) (Jz 8 ?_)
 refine Cz (Jl) 175 3 (Ko (Cw (fun s g mz ρ Γ=>∃(Ac:OA) (qc:Nat) (O:List Cm) (k:Nat),ρ=[s 2,s 3,(60,vs F.Ac F.comps F.qc),s 61,(62,nv k)]∧Γ=[g 4,box b3 [.string F.name,vs Af Fs qf,vs Al Ls ql,vs Ac O qc] 108,g 6,g 9,ros Jl F.Ac F.comps,g 8,rows Jl 175 3 Ac qc O,all (List.flatMap (Cm.kids eX) O)]∧mz=F.comps.length-k∧(k≤F.comps.length)∧(O.map Cm.pure=(F.comps.take k).map Cm.pure)∧(∀x∈O,x.Cap)) ⟨⟨none,0,([]:List Cm),0,rfl,rfl,rfl,om,rfl,(fun _ h=>nomatch h)⟩,sb⟩ ?_))
 rintro mz _ _ ⟨Ac,qc,O,k,rfl,rfl,rfl,hk,hO,hOc⟩
 have hOl:O.length≤3:=by have h:=congrArg List.length hO;rw[aEg,aEg,aEe]at h;omega
 refine Jz 6 ?_
 refine Jcp rfl ?_ ?_<;>intro c63
 obtain⟨c,hc⟩:=exg F.comps k om
 obtain⟨hcv,hcy⟩:=hF.vars c (mog hc)
 obtain⟨hcw,hcz⟩:=hF.vers c (mog hc)
 refine Jz 8 ?_
 refine Jal fun b9=>?_
 refine Jz 7 ?_
 refine Jr (.bd [.string c.name,nz,nz]) ?_
 refine Jal fun b10=>?_
 refine Jz 5 ?_
 refine Db 7 rfl (c.kids eR) (Cm.lax eR c) (Fj hc) (To.one 0 rfl (ros Oj c.Av c.vars) rfl (Rj) (Jz 8 ?_))
 refine Cz (Iy) 189 3 (Cw (fun s g mz ρ Γ=>∃(Av:OA) (qv:Nat) (V:List Vr) (j:Nat),ρ=[s 2,s 3,s 60,s 61,s 62,s 9,s 10,(70,vs c.Av c.vars c.qv),s 71,(72,nv j)]∧Γ=[g 5,g 6,g 7,g 8,g 9,g 10,g 11,g 12,g 4,box b10 [.string c.name,vs Av V qv,nz] 175,ros Oj c.Av c.vars,g 2,rows Iy 189 3 Av qv V]∧mz=c.vars.length-j∧(j≤c.vars.length)∧(V=c.vars.take j)) ⟨⟨none,0,([]:List Vr),0,rfl,rfl,rfl,om,rfl⟩,sb⟩ ?_)
 rintro mz _ _ ⟨Av,qv,V,j,rfl,rfl,rfl,hj,hV⟩
 have hVl:V.length≤5:=by rw[hV,aEe];omega
 refine Jz 6 ?_
 refine Jcp rfl ?_ ?_<;>intro c73
 obtain⟨y,hy⟩:=exg c.vars j om
 have hy3:=hcy y (mog hy)
 refine Jz 8 ?_
 refine Jal fun b12=>?_
 refine Jz 10 ?_
 refine Jr (Fv rfl rfl Tryz.underlying3 Tryz.underlying187 (IntWalk.u8_in _ om)) ?_
 refine Jz 2 ?_
 refine Jr (.bd [.string y.name, .int .u8 ((y.ty:Nat):Int),iv y.init]) ?_
 refine Eg [.string y.name, .int .u8 ((y.ty:Nat):Int),iv y.init] fun b86=>?_
 refine Jge rfl rfl rfl (Bg KW (i:=14) (j:=0) (el:=y) rfl aAg rfl rfl rfl rfl rfl om om) ?_
 rintro _ _ ⟨A87,q87,rfl,rfl⟩
 refine Jz 10 ?_
 refine Cg ⟨⟨A87,q87,(V++[y]),j+1,rfl,rfl,rfl,om,(by rw[Cf hy,←hV])⟩,sb⟩
 refine Jz 7 ?_
 refine To.one 11 rfl (ros Ik c.An c.vers) rfl (Lm) (Jz 8 ?_)
 refine Cz (Ik) 192 1 (Ko (Cw (fun s g mz ρ Γ=>∃(Aw:OA) (qw:Nat) (W:List Vs) (jw:Nat),ρ=[s 2,s 3,s 60,s 61,s 62,s 10,s 91,s 92,(93,nv jw)]∧Γ=[g 3,g 4,g 5,g 6,g 7,g 8,g 9,g 10,box b10 [.string c.name,vs Av V qv,vs Aw W qw] 175,g 15,g 2,g 14,rows Ik 192 1 Aw qw W,all (List.flatMap (Vs.kids eX) W)]∧mz=c.vers.length-jw∧(jw≤c.vers.length)∧(W.map Vs.pure=(c.vers.take jw).map Vs.pure)∧(∀x∈W,x.Cap)) ⟨⟨none,0,([]:List Vs),0,rfl,rfl,rfl,om,rfl,(fun _ h=>nomatch h)⟩,sb⟩ ?_))
 rintro mz _ _ ⟨Aw,qw,W,jw,rfl,rfl,rfl,hjw,hW,hWc⟩
 have hWl:W.length≤2:=by have h:=congrArg List.length hW;rw[aEg,aEg,aEe]at h;omega
 refine Jz 6 ?_
 refine Jcp rfl ?_ ?_<;>intro c94
 obtain⟨v,hv⟩:=exg c.vers jw om
 obtain⟨hvl,hvh⟩:=hcz v (mog hv)
 refine Jz 13 ?_
 refine Jal fun b15=>?_
 refine Jz 4 ?_
 refine Db 12 rfl (v.kids eR) (Vs.lax eR v) (Ky hv) (To.one 0 rfl (ros Me v.A v.l) rfl (Wl) (Jz 7 ?_))
 refine Cz (Me) 196 3 (Ko (Cw (fun s g mz ρ Γ=>∃(Ah:OA) (qh:Nat) (H:List Hd) (i:Nat),ρ=[s 2,s 3,s 60,s 61,s 62,s 10,s 91,s 92,s 93,s 15,s 97,s 98,(99,nv i)]∧Γ=[g 5,g 6,g 7,g 8,g 9,g 10,g 11,g 12,g 13,g 14,g 15,g 16,g 17,g 18,box b15 [vs Ah H qh] 192,g 2,g 3,rows Me 196 3 Ah qh H,all (List.flatMap (Hd.kids eX) H)]∧mz=v.l.length-i∧(i≤v.l.length)∧(H.map Hd.pure=(v.l.take i).map Hd.pure)∧(∀x∈H,x.ps.length≤x.qp)) ⟨⟨none,0,([]:List Hd),0,rfl,rfl,rfl,om,rfl,(fun _ h=>nomatch h)⟩,sb⟩ ?_))
 rintro mz _ _ ⟨Ah,qh,H,i,rfl,rfl,rfl,hi,hH,hHc⟩
 have hHl:H.length≤3:=by have h0:=congrArg List.length hH;rw[aEg,aEg,aEe]at h0;omega
 refine Jz 6 ?_
 refine Jcp rfl ?_ ?_<;>intro aCs
 obtain⟨h,hh⟩:=exg v.l i om
 obtain⟨hhp,hhb,hhl⟩:=hvh h (mog hh)
 refine Jz 3 ?_
 refine Ru (T:=(OA)×(Nat)×(OA)×(Nat)×(List St)×(OA)×(Nat)) (fun t=>([(2,pv b2),(3,pv b3),(60,vs F.Ac F.comps F.qc),(61,nv F.comps.length),(62,nv k),(10,pv b10),(91,vs c.An c.vers c.qn),(92,nv c.vers.length),(93,nv jw),(15,pv b15),(97,vs v.A v.l v.q),(98,nv v.l.length),(99,nv i)],[box b2 [.string bE,nz,nz,nz] 108,box b3 [.string F.name,vs Af Fs qf,vs Al Ls ql,vs Ac O qc] 108,rows Gx 185 2 Af qf Fs,rows Lb 186 3 Al ql Ls,ros Jl F.Ac F.comps,all (F.kids eR),rows Jl 175 3 Ac qc O,all (List.flatMap (Cm.kids eX) O),box b10 [.string c.name,vs Av V qv,vs Aw W qw] 175,rows Iy 189 3 Av qv V,ros Ik c.An c.vers,all (c.kids eR),rows Ik 192 1 Aw qw W,all (List.flatMap (Vs.kids eX) W),box b15 [vs (t.2.2.2.2.2.1) (H++[(⟨h.name,(t.1),(t.2.1),h.ps,(t.2.2.1),(t.2.2.2.1),(t.2.2.2.2.1)⟩:Hd)]) (t.2.2.2.2.2.2)] 192,ros Me v.A v.l,all (v.kids eR),rows encZ 9 1 (t.1) (t.2.1) h.ps,all (lsG Bw Dh (t.2.2.1) (t.2.2.2.2.1)),rows Me 196 3 (t.2.2.2.2.2.1) (t.2.2.2.2.2.2) (H++[(⟨h.name,(t.1),(t.2.1),h.ps,(t.2.2.1),(t.2.2.2.1),(t.2.2.2.2.1)⟩:Hd)]),all (List.flatMap (Hd.kids eX) H)])) (fun t=>(Ba (t.2.2.2.2.1)=Ba h.body)) ?_ ?_
 refine Jz 5 ?_
 refine Jal fun b17=>?_
 refine Jz 3 ?_
 refine Db 17 rfl (h.kids eR) (Hd.lax eR h) (Ur hh) (Db 0 rfl (lsG Dk encS h.Ab h.body) (Dx _ _ _ _) (Rk (k:=eR)) (To.one 1 rfl (ros encZ h.Ap h.ps) rfl (fI) (Ki (VY (tel []) (PT [(9,[all (lsG Dk encS h.Ab h.body)],(Yq h.body))])) mixed.h (Hy 1 9 rfl (by kernel_rfl) ?_ ?_))))
 refine Lc [box b17 [.string h.name,vs h.Ap h.ps h.qp,vs h.Ab h.body h.qb] 40] [0,2,3,4,5,7,8,206,7509,10,101,211,12512,13,514] (ocs (oca 3 rfl) (ocn _)) ?_
 refine Jz 7 ?_
 refine Fw.mk rfl rfl rfl rfl rfl (aO Ec (m:=h.ps) rfl s37 rfl rfl (oca (c:=ros encZ h.Ap h.ps) 0 rfl) om om) ?_
 rintro _ _ ⟨Ap2,qp2,rfl,rfl⟩
 refine Ka [2] rfl rfl rfl rfl .fc rfl (aL h.body h.Ab h.qb hhb hhl) rfl ?_
 rintro _ _ ⟨Ab2,qb2,hb2,rfl,rfl,hbp⟩
 refine⟨ocs (oca 4 rfl) (ocn _),?_⟩
 refine Fw.f rfl (.bd [.string h.name,vs Ap2 h.ps qp2,vs Ab2 hb2 qb2]) ?_
 refine Jz 1 ?_
 refine Es [.string h.name,vs Ap2 h.ps qp2,vs Ab2 hb2 qb2] fun b114=>?_
 refine Fw.ge rfl rfl rfl rfl (Bg fD (i:=23) (j:=0) (el:=(⟨h.name,Ap2,qp2,h.ps,Ab2,qb2,hb2⟩:Hd)) rfl WS rfl rfl rfl rfl rfl om om) ?_
 rintro _ _ ⟨A115,q115,rfl,rfl⟩
 refine⟨ocs (oca 5 rfl) (ocn _),?_⟩
 refine Jz 1 ?_
 refine Fw.up rfl rfl rfl (Up.store (i:=20) rfl rfl rfl aAo rfl rfl (bta rfl)) (ocs (oca 5 rfl) (ocn _)) ?_
 refine Jz 3 ?_
 refine Lv (Ap2,qp2,Ab2,qb2,hb2,A115,q115) hbp
 refine Lc [box b17 [.string h.name,vs h.Ap h.ps h.qp,vs h.Ab h.body h.qb] 40] [0,2,3,4,5,7,8,101,206,7509,10,211,12512,13,514] (ocs (oca 3 rfl) (ocn _)) ?_
 refine Jz 8 ?_
 refine Fw.mk rfl rfl rfl rfl rfl (aO Ec (m:=h.ps) rfl s37 rfl rfl (oca (c:=ros encZ h.Ap h.ps) 0 rfl) om om) ?_
 rintro _ _ ⟨Ap2,qp2,rfl,rfl⟩
 refine Ka [2] rfl rfl rfl rfl .fc rfl (aL h.body h.Ab h.qb hhb hhl) rfl ?_
 rintro _ _ ⟨Ab2,qb2,hb2,rfl,rfl,hbp⟩
 refine⟨ocs (oca 4 rfl) (ocn _),?_⟩
 refine Fw.f rfl (.bd [.string h.name,vs Ap2 h.ps qp2,vs Ab2 hb2 qb2]) ?_
 refine Es [.string h.name,vs Ap2 h.ps qp2,vs Ab2 hb2 qb2] fun b114=>?_
 refine Fw.ge rfl rfl rfl rfl (Bg fD (i:=23) (j:=0) (el:=(⟨h.name,Ap2,qp2,h.ps,Ab2,qb2,hb2⟩:Hd)) rfl WS rfl rfl rfl rfl rfl om om) ?_
 rintro _ _ ⟨A115,q115,rfl,rfl⟩
 refine⟨ocs (oca 5 rfl) (ocn _),?_⟩
 refine Jz 1 ?_
 refine Fw.up rfl rfl rfl (Up.store (i:=20) rfl rfl rfl aAo rfl rfl (bta rfl)) (ocs (oca 5 rfl) (ocn _)) ?_
 refine Jz 3 ?_
 refine Lv (Ap2,qp2,Ab2,qb2,hb2,A115,q115) hbp
 rintro⟨Ap2,qp2,Ab2,qb2,hb2,Ah2,qh2⟩ hbp
 replace hbp:Ba hb2=Ba h.body:=hbp
 dsimp only
 refine xY 17 rfl (fun hzc=>?_)
 refine zN (zN (XO eX (⟨h.name,Ap2,qp2,h.ps,Ab2,qb2,hb2⟩:Hd) (rY (Le (Xv H (⟨h.name,Ap2,qp2,h.ps,Ab2,qb2,hb2⟩:Hd) (Jz 5 ?_))))))
 refine Cg ⟨⟨Ah2,qh2,(H++[(⟨h.name,Ap2,qp2,h.ps,Ab2,qb2,hb2⟩:Hd)]),i+1,rfl,rfl,rfl,om,(by rw[aEq,hH,Cf hh,aEq];show _++[(⟨h.name,h.ps,Ba hb2⟩:PH)]=_++[Hd.pure h];rw[hbp];rfl),(qQ hHc hzc)⟩,sb⟩
 refine Jz 9 ?_
 refine Eg [vs Ah H qh] fun b121=>?_
 refine Jge rfl rfl rfl (Bg Vy (i:=13) (j:=0) (el:=(⟨Ah,qh,H⟩:Vs)) rfl aAh rfl rfl rfl rfl rfl om om) ?_
 rintro _ _ ⟨A122,q122,rfl,rfl⟩
 refine Jz 5 ?_
 refine xY 18 rfl (fun hhc=>?_)
 refine rY (rY (XP eX (⟨Ah,qh,H⟩:Vs) (mD (Le (Xv W (⟨Ah,qh,H⟩:Vs) (Jz 5 ?_))))))
 refine Cg ⟨⟨A122,q122,(W++[(⟨Ah,qh,H⟩:Vs)]),jw+1,rfl,rfl,rfl,om,(by rw[aEq,hW,Cf hv,aEq];show _++[H.map Hd.pure]=_++[v.l.map Hd.pure];rw[hH,aEm (l:=v.l) om]),(qQ hWc ⟨hhc,hHc⟩)⟩,sb⟩
 refine Jz 9 ?_
 refine Eg [.string c.name,vs Av V qv,vs Aw W qw] fun b128=>?_
 refine Jge rfl rfl rfl (Bg BB (i:=7) (j:=0) (el:=(⟨c.name,Av,qv,V,Aw,qw,W⟩:Cm)) rfl aAe rfl rfl rfl rfl rfl om om) ?_
 rintro _ _ ⟨A129,q129,rfl,rfl⟩
 refine Jz 5 ?_
 refine xY 10 rfl (fun hvc=>?_)
 refine xY 13 rfl (fun hwc=>?_)
 refine rX (rX (Su (XQ eX (⟨c.name,Av,qv,V,Aw,qw,W⟩:Cm) (DX (Le (Xv O (⟨c.name,Av,qv,V,Aw,qw,W⟩:Cm) (Jz 5 ?_)))))))
 refine Cg ⟨⟨A129,q129,(O++[(⟨c.name,Av,qv,V,Aw,qw,W⟩:Cm)]),k+1,rfl,rfl,rfl,om,(by rw[aEq,hO,Cf hc,aEq];show _++[(⟨c.name,V,W.map Vs.pure⟩:PC)]=_++[Cm.pure c];rw[hV,hW,aEm (l:=c.vars) om,aEm (l:=c.vers) om];rfl),(qQ hOc ⟨⟨hvc,hwc⟩,hWc⟩)⟩,sb⟩
 refine Jz 12 ?_
 refine xY 2 rfl (fun hfc=>?_)
 refine xY 3 rfl (fun hlc=>?_)
 refine xY 6 rfl (fun hcc=>?_)
 refine Cj (Cj (Nz (Nz (XR eX (⟨F.name,Af,qf,Fs,Al,ql,Ls,Ac,qc,O⟩:Fl) (Gf [0] Tryz.results27 ?_)))))
 exact⟨(⟨F.name,Af,qf,Fs,Al,ql,Ls,Ac,qc,O⟩:Fl),rfl,rfl,⟨⟨hfc,hlc,hcc⟩,hOc⟩,by show(⟨F.name,Fs,Ls,O.map Cm.pure⟩:PF)=⟨F.name,F.flags,F.links,F.comps.map Cm.pure⟩;rw[hFs,hLs,hO,aEm (l:=F.flags) om,aEm (l:=F.links) om,aEm (l:=F.comps) om]⟩
end Go.Proofs.YtlihklladkagpaaGreatDoor

/- Own text. -/
import Derived.Test.YtlihklladkagpaaGreatDoorEb
set_option maxHeartbeats 8000000
set_option maxRecDepth 100000
set_option linter.unusedVariables false
set_option linter.unusedSimpArgs false
namespace Go.Proofs.YtlihklladkagpaaGreatDoor
open Go.Proofs.Tryz
open Go.RowKit Go.Flow Go.Mem Go.Sep Go.In
theorem aJw(x:Cm)(hcv:x.vers.length≤1000)(hvs:∀v∈x.vers,v.l.length≤100)(hHl:(hnames (x.vers.map Vs.pure)).length≤1000)(nm:ByteArray)(h:Nat)(hix:ixF nm 0 (hnames (x.vers.map Vs.pure))=some h):
    Dz 124 [.agg (cX x []).toArray, .string nm] [all (Cm.kids eR x)] (fun v _=>v=nv h):=by
 refine Am func124 ntmps124 fun w0=>?_
 refine Js (To.g (Jbo fun b2=>?_))
 refine Jz 7 ?_
 refine Jcf [1] (qX x hcv hvs) ?_
 rintro _ _ ⟨Ah,qh,rfl,rfl⟩
 refine Jz 5 ?_
 refine Cw (fun s g mz ρ Γ=>∃(k:Nat),ρ=[s 1,s 8,s 9,(10,nv k)]∧Γ=[g 0]∧mz=(hnames (x.vers.map Vs.pure)).length-k∧(k≤(hnames (x.vers.map Vs.pure)).length)∧(ixF nm k ((hnames (x.vers.map Vs.pure)).drop k)=some h)) ⟨⟨0,rfl,rfl,rfl,om,hix⟩,sb⟩ ?_
 rintro mz _ _ ⟨k,rfl,rfl,rfl,hk,hI⟩
 refine Jz 6 ?_
 refine Jcp rfl ?_ ?_<;>intro k11
 obtain⟨y,hy⟩:∃z0,(hnames (x.vers.map Vs.pure))[k]?=some z0:=⟨(hnames (x.vers.map Vs.pure))[k]'om,gge _⟩
 refine Jz 17 ?_
 refine Jr (Nt rfl rfl rfl) ?_
 refine Jn (Jt (Jcp rfl (fun k17=>?_) (fun k17=>?_)))
 refine Jz 12 ?_
 refine Du (Je1 results124 ?_)
 rw[dog hy,aJn,aEh (by assumption)]at hI
 exact congrArg (fun k:Nat=>Value.int .i64 (k:Int)) (aEn hI)
 refine Jz 8 ?_
 refine Hu ⟨⟨k+1,rfl,rfl,rfl,om,(by rw[dog hy,aJn,aEa (by assumption)]at hI;exact hI)⟩,sb⟩
 refine Jz 11 ?_
 refine Du (Je1 results124 ?_)
 exfalso
 rw[aFh om]at hI
 cases hI
def PBd(b:Nat)(s:Sm)(hh:Hd)(F:Fl)(oi:Nat)(c:Cm)(cc:Cc)(mv nt:Nat)(l:List St):Prop:=∀(A:OA) (q:Nat) (d:Dm),OkT mv nt 0 d.val→(∀y∈l,GS hh F c cc mv nt y.pure)→l.length≤1000→Dz 42 [pv b,vs A l q] [box b (cT s hh F oi d) 136,rows aLz 2 1 d.Av d.qv d.vars,rows Tb.cells 58 1 d.At d.qt d.tabs,De Be (d.tabs.map Tb.ar),ros Be d.dk.A d.dk.l,rows Dp 131 8 d.Ae d.qe d.effs,De aLz (d.effs.map Ef.ar),rows aLz 2 1 d.As d.qs d.stack,ros aMb hh.Ap hh.ps,ros Gx F.Af F.flags,ros Jl F.Ac F.comps,ros Oj c.Av c.vars,ros aLz s.Aa s.args,ros Qv s.Ag s.flags,ros aLz s.Af s.fail,all (F.kids eR),all (lsG Dk aMc A l)] (fun v Γ'=>v= .tuple #[]∧∃d':Dm,Γ'=[box b (cT s hh F oi d') 136,rows aLz 2 1 d'.Av d'.qv d'.vars,rows Tb.cells 58 1 d'.At d'.qt d'.tabs,De Be (d'.tabs.map Tb.ar),ros Be d'.dk.A d'.dk.l,rows Dp 131 8 d'.Ae d'.qe d'.effs,De aLz (d'.effs.map Ef.ar),rows aLz 2 1 d'.As d'.qs d'.stack]∧Bd cc s (Ba l) d.val d'.val)
theorem aLh{c:Cc}{d:Dv}{e:EfV}{nm hd:ByteArray}{L:List Int}(hs:0≤d.sends∧d.sends≤8)(he:e=⟨1,e.to,e.h,0,0,0,false,L⟩)(hg:(c.tg nm hd)=(e.to,e.h)):eB e d=aJf c d 6 nm hd L:=by
 have e1:aJf c d 6 nm hd L=aIt d ⟨1,(c.tg nm hd).1,(c.tg nm hd).2,0,0,0,false,L⟩:=rfl
 rw[e1,hg,←he]
 unfold eB aIt
 by_cases h:d.sends=8
 ·rw[aEh om,aEh h];rfl
 ·rw[aEa om,aEa h]
theorem aLc{c:Cc}{d:Dv}{nm hd:ByteArray}{L:List Int}{z:Int}{h:Nat}(hs:0≤d.sends∧d.sends≤8)(hg:c.ah hd=(h:Int))(hz:L.getD 0 0=z):eB ⟨2,0,(h:Int),z,0,0,false,L.drop 1⟩ d=aJf c d 7 nm hd L:=by
 have e1:aJf c d 7 nm hd L=aIt d ⟨2,0,c.ah hd,L.getD 0 0,0,0,false,L.drop 1⟩:=rfl
 rw[e1,hg,hz]
 unfold eB aIt
 by_cases h:d.sends=8
 ·rw[aEh om,aEh h];rfl
 ·rw[aEa om,aEa h]
theorem aKj(b:Nat)(s:Sm)(hh:Hd)(F:Fl)(oi:Nat)(d:Dm)(c:Cm)(cc:Cc)(mv nt:Nat)(ht:TrE s hh F c oi)(hB:aDn F)(hdsk:0≤s.dsk∧s.dsk≤1000000000)(hfl:s.fail.length≤1000000)(hHn:∀y∈F.comps,(hnames (y.vers.map Vs.pure)).length≤1000)(x:St)(hk5:x.kind≠5)(hg:GS hh F c cc mv nt x.pure)(hxl:x.thn.length≤1000∧x.els.length≤1000)(ho:OkT mv nt 1 d.val)(hf:d.fault=false)(ihT:PBd b s hh F oi c cc mv nt x.thn)(ihE:PBd b s hh F oi c cc mv nt x.els):
    Dz 75 [pv b, .agg (aMc x).toArray] [box b (cT s hh F oi d) 136,rows aLz 2 1 d.Av d.qv d.vars,rows Tb.cells 58 1 d.At d.qt d.tabs,De Be (d.tabs.map Tb.ar),ros Be d.dk.A d.dk.l,rows Dp 131 8 d.Ae d.qe d.effs,De aLz (d.effs.map Ef.ar),rows aLz 2 1 d.As d.qs d.stack,ros aMb hh.Ap hh.ps,ros Gx F.Af F.flags,ros Jl F.Ac F.comps,ros Oj c.Av c.vars,ros aLz s.Aa s.args,ros Qv s.Ag s.flags,ros aLz s.Af s.fail,all (F.kids eR),all (lsF Dk x.A x.exprs),all (lsG Dk aMc x.At x.thn),all (lsG Dk aMc x.Ae x.els)] (fun v Γ'=>v= .tuple #[]∧∃d':Dm,Γ'=[box b (cT s hh F oi d') 136,rows aLz 2 1 d'.Av d'.qv d'.vars,rows Tb.cells 58 1 d'.At d'.qt d'.tabs,De Be (d'.tabs.map Tb.ar),ros Be d'.dk.A d'.dk.l,rows Dp 131 8 d'.Ae d'.qe d'.effs,De aLz (d'.effs.map Ef.ar),rows aLz 2 1 d'.As d'.qs d'.stack]∧StD cc s x.pure d.val d'.val):=by
 have hx1:=hg.at
 have hFc:=hB.comps
 have hdv:=ho.vars
 have hdt:d.tabs.length=nt:=by have:=ho.tabs;rwa[show d.val.tabs.length=d.tabs.length from aEg ..]at this
 have hdv:d.vars.length=mv:=hdv
 have hcost:0≤d.cost∧d.cost≤200:=ho.cost
 have hel:d.effs.length≤4000000:=by have h1:=ho.effs;rw[show d.val.effs.length=d.effs.length from aEg ..,aEa (by show¬d.fault=true;rw[hf];decide)]at h1;have h1:(d.effs.length:Int)+1≤d.cost+0:=h1;omega
 have hdd:0≤d.disks∧d.disks≤2000000:=by have h1:0≤d.disks∧d.disks+1≤d.cost:=ho.disks;omega
 have hxe:x.exprs.length≤5:=by have h1:=hx1.ar;unfold arK at h1;have:=hx1.kind;omega
 refine Am func75 ntmps75 fun w0=>?_
 refine Js (To.g (Jbo fun b3=>?_))
 refine Jz 9 ?_
 refine To.one 17 rfl (ros Dk x.A x.exprs) rfl (aEd ..) (Jz 8 ?_)
 refine Cz (aLz) 2 1 (Cw (fun u g mz ρ Γ=>∃(Al:OA) (ql:Nat) (L:List Int) (k:Nat),ρ=[u 0,u 3,(4,vs Al L ql),u 12,u 13,(14,nv k)]∧Γ=[box b (cT s hh F oi d) 136,g 4,g 5,g 6,g 7,g 8,g 9,g 10,g 11,g 12,g 13,g 14,g 15,g 16,g 17,g 18,g 2,g 1,g 19,g 20,g 21,rows aLz 2 1 Al ql L]∧mz=x.exprs.length-k∧(k≤x.exprs.length)∧(L=aIs cc s d.val (Cv (x.exprs.take k)))) ⟨⟨none,0,([]:List Int),0,rfl,rfl,rfl,om,rfl⟩,sb⟩ ?_)
 rintro mz _ _ ⟨Al,ql,L,k,rfl,rfl,rfl,hk,hL⟩
 have hLl:L.length≤x.exprs.length:=by rw[hL,aIv,aEg,Bz,aEg,aEe];omega
 refine Jz 6 ?_
 refine Jcp rfl ?_ ?_<;>intro k15
 obtain⟨y,hy⟩:=exg x.exprs k om
 refine Jz 8 ?_
 refine Jal fun b6=>?_
 refine Jz 3 ?_
 refine Db 19 rfl (y.kids Dk) (Ex.lax Dk y) (Yo hy) (Jz 4 ?_)
 refine Jvf (aKa b s hh F oi d c cc ht ho.good y (by rw[hdv,hdt];exact hx1.e y (mog hy))) (by show owns (y.kids Dk)++[]=[];rw[(Ex.lax Dk y).owns];rfl) (ocs (PX 2 rfl) (ocs (oca 10 rfl) (ocs (oca 11 rfl) (ocs (oca 12 rfl) (ocs (oca 13 rfl) (ocs (oca 14 rfl) (ocs (oca 15 rfl) (ocs (Ht 3 rfl) (ocs (Ht 4 rfl) (ocs (oca 5 rfl) (ocs (oca 0 rfl) (ocn _)))))))))))) ?_
 refine Eg [iv (evE cc s d.val y.pure)] fun b22=>?_
 refine Jge rfl rfl rfl (Bg Cy (i:=24) (j:=0) (el:=(evE cc s d.val y.pure)) rfl s28 rfl rfl rfl rfl rfl om om) ?_
 rintro _ _ ⟨A23,q23,rfl,rfl⟩
 refine Jz 9 ?_
 refine Cg ⟨⟨A23,q23,(L++[(evE cc s d.val y.pure)]),k+1,rfl,rfl,rfl,om,(by rw[aJu cc s d.val hy,hL])⟩,sb⟩
 refine Jz 6 ?_
 have hLl:L.length=x.exprs.length:=by rw[hL,aIv,aEg,Bz,aEg,aEe];omega
 rw[aEm om]at hL
 refine Jz 23 ?_
 refine Jcp rfl ?_ ?_<;>intro k33
 have hL1:x.exprs.length=1:=hx1.ar.1 om
 obtain⟨z,hz⟩:=exg L 0 om
 obtain⟨hvs,j,hj,hjn⟩:=hx1.v om
 have hjl:j<d.vars.length:=om
 obtain⟨y0,hy0⟩:=exg d.vars j om
 refine Lt (p:=d.Av=some ⟨blk d.Av,ofs d.Av,none⟩) (fun w hw=>Oe Cy (by decide) (l:=d.vars) om 1 rfl hw) (fun hAv=>?_)
 refine Jfw [] [0,1,2,3,4,6,7,10,108,309,105,111,112,13,514] (ocn _) ?_
 refine Jz 9 ?_
 refine Fw.qf ((aIu b s hh F oi d c ht.comp ht.vl x.name).mono (R':=fun v _=>v=nv j) (fun v _ h=>by rw[h,hvs,hj])) (ocs (PX 0 rfl) (ocs (oca 10 rfl) (ocs (oca 11 rfl) (ocn _)))) ?_
 refine Jz 3 ?_
 refine Fw.f rfl (Cr (v':= .pointer (some ⟨blk d.Av,ofs d.Av+j*1,none⟩)) rfl (Dg (j:=j) hAv rfl rfl rfl s28 hjl)) ?_
 refine Fw.up rfl rfl rfl (Up.store (i:=1) rfl rfl rfl c2 rfl rfl (Ee Cy (y:=z) (by decide) om)) (ocn _) ?_
 refine Jz 2 ?_
 refine Jas [box b [vs s.Aa s.args s.qa,iv s.now,vs s.Ag s.flags s.qg,iv s.dsk,vs s.Af s.fail s.qf,vs d.Av (d.vars.set j z) d.qv,vs d.At d.tabs d.qt,vs d.dk.A d.dk.l d.dk.q,vs d.Ae d.effs d.qe,iv d.cost,vs d.As d.stack d.qs,iv d.disks,iv d.sends, .bool d.fault, .string hh.name,vs hh.Ap hh.ps hh.qp,vs hh.Ab hh.body hh.qb, .string F.name,vs F.Af F.flags F.qf,vs F.Al F.links F.ql,vs F.Ac F.comps F.qc,nv oi] 136,rows aLz 2 1 d.Av d.qv (d.vars.set j z),rows Tb.cells 58 1 d.At d.qt d.tabs,De Be (d.tabs.map Tb.ar),ros Be d.dk.A d.dk.l,rows Dp 131 8 d.Ae d.qe d.effs,De aLz (d.effs.map Ef.ar),rows aLz 2 1 d.As d.qs d.stack,ros aMb hh.Ap hh.ps,ros Gx F.Af F.flags,ros Jl F.Ac F.comps,ros Oj c.Av c.vars,ros aLz s.Aa s.args,ros Qv s.Ag s.flags,ros aLz s.Af s.fail,all (F.kids eR),box b3 (aMc x) 217,ros Dk x.A x.exprs,all (lsF Dk x.A x.exprs),all (lsG Dk aMc x.At x.thn),all (lsG Dk aMc x.Ae x.els),rows aLz 2 1 Al ql L] (by(try unfold vs);rw[aEj]<;>rfl) (aJd (aJc (aJb (WE (WC (wI (iA (bI (Pz (Iw (Fy (Gu (Jk (Kt (Co (.inr rfl) results75 ?_)))))))))))))))
 exact⟨rfl,(⟨d.Av,d.qv,(d.vars.set j z),d.At,d.qt,d.tabs,⟨d.dk.A,d.dk.q,d.dk.l⟩,d.Ae,d.qe,d.effs,d.cost,d.As,d.qs,d.stack,d.next,d.sends,d.disks,d.fault⟩:Dm),rfl,StD.one hL om (hx1.t0 om om) (hx1.e0 om om om) (by rw[show x.kind=1 by omega];unfold aJf;rw[aEh rfl,hj,Int.toNat_natCast,aJg hz];rfl)⟩
 refine Jz 6 ?_
 refine Jcp rfl ?_ ?_<;>intro k49
 have hL2:x.exprs.length=2:=hx1.ar.2.1 om
 obtain⟨z,hz⟩:=exg L 0 om
 obtain⟨z2,hz2⟩:=exg L 1 om
 obtain⟨hts,j,hj,hjn⟩:=hx1.t om
 have hjl:j<d.tabs.length:=om
 obtain⟨t,htj⟩:=exg d.tabs j om
 have htm:=mog htj
 have hg:Good t.l:=ho.good t.l (aEv.2 ⟨t,htm,rfl⟩)
 have hgl:=hg.len
 refine Lt (p:=d.At=some ⟨blk d.At,ofs d.At,none⟩) (fun w hw=>Oe Nf (by decide) (l:=d.tabs) om 2 rfl hw) (fun hAt=>?_)
 refine rV 3 rfl (Ou htj Tb.ar) ?_
 have hgt:d.val.tabs.getD j []=t.l:=by rw[aEx];show((d.tabs.map Tb.l)[j]?).getD []=t.l;rw[aEp,htj];rfl
 refine Jfw [] [0,1,2,5,6,7,12,15,103,304,108,309,110,111,113,114,116,117,518,19,520] (ocn _) ?_
 refine Jz 9 ?_
 refine Fw.qf ((aIu b s hh F oi d c ht.comp ht.vl x.name).mono (R':=fun v _=>v=nv j) (fun v _ h=>by rw[h,hts,hj])) (ocs (PX 1 rfl) (ocs (oca 11 rfl) (ocs (oca 12 rfl) (ocn _)))) ?_
 refine Jz 1 ?_
 refine Fw.qf ((aIu b s hh F oi d c ht.comp ht.vl x.name).mono (R':=fun v _=>v=nv j) (fun v _ h=>by rw[h,hts,hj])) (ocs (PX 1 rfl) (ocs (oca 11 rfl) (ocs (oca 12 rfl) (ocn _)))) ?_
 refine Fw.r rfl (Cr (v':= .pointer (some ⟨blk d.At,ofs d.At+j*1,none⟩)) rfl (Dg (j:=j) hAt rfl rfl rfl s57 hjl)) ?_
 refine Jz 5 ?_
 refine Da [0] (vI t.A t.q t.l z z2 hg) ?_
 rintro _ _ ⟨Bd,qd,rfl,rfl⟩
 refine⟨ocn _,?_⟩
 refine Fw.f rfl (Cr (v':= .pointer (some ⟨blk d.At,ofs d.At+j*1,none⟩)) rfl (Dg (j:=j) hAt rfl rfl rfl s57 hjl)) ?_
 refine Fw.up rfl rfl rfl (Up.store (i:=3) rfl rfl rfl c58 rfl rfl (Ee Nf (y:=(⟨Bd,qd,(Oq t.l z z2)⟩:Tb)) (by decide) om)) (ocn _) ?_
 refine Jz 2 ?_
 refine Jas [ros Be Bd (Oq t.l z z2),box b [vs s.Aa s.args s.qa,iv s.now,vs s.Ag s.flags s.qg,iv s.dsk,vs s.Af s.fail s.qf,vs d.Av d.vars d.qv,vs d.At (d.tabs.set j (⟨Bd,qd,Oq t.l z z2⟩:Tb)) d.qt,vs d.dk.A d.dk.l d.dk.q,vs d.Ae d.effs d.qe,iv d.cost,vs d.As d.stack d.qs,iv d.disks,iv d.sends, .bool d.fault, .string hh.name,vs hh.Ap hh.ps hh.qp,vs hh.Ab hh.body hh.qb, .string F.name,vs F.Af F.flags F.qf,vs F.Al F.links F.ql,vs F.Ac F.comps F.qc,nv oi] 136,rows aLz 2 1 d.Av d.qv d.vars,rows Tb.cells 58 1 d.At d.qt (d.tabs.set j (⟨Bd,qd,(Oq t.l z z2)⟩:Tb)),De Be (d.tabs.map Tb.ar),ros Be d.dk.A d.dk.l,rows Dp 131 8 d.Ae d.qe d.effs,De aLz (d.effs.map Ef.ar),rows aLz 2 1 d.As d.qs d.stack,ros aMb hh.Ap hh.ps,ros Gx F.Af F.flags,ros Jl F.Ac F.comps,ros Oj c.Av c.vars,ros aLz s.Aa s.args,ros Qv s.Ag s.flags,ros aLz s.Af s.fail,all (F.kids eR),box b3 (aMc x) 217,ros Dk x.A x.exprs,all (lsF Dk x.A x.exprs),all (lsG Dk aMc x.At x.thn),all (lsG Dk aMc x.Ae x.els),rows aLz 2 1 Al ql L] (by(try unfold vs);rw[aEj]<;>rfl) (La ((d.tabs.set j (⟨Bd,qd,Oq t.l z z2⟩:Tb)).map Tb.ar) 4 rfl (Ww (mog (i:=0) rfl)) (aKw (aId (aJd (aJc (aJb (WE (WC (wI (iA (bI (Pz (Iw (Fy (Gu (Iu (Df (Ic (Ic (Ic (Co (.inr rfl) results75 ?_)))))))))))))))))))))
 exact⟨rfl,(⟨d.Av,d.qv,d.vars,d.At,d.qt,(d.tabs.set j (⟨Bd,qd,Oq t.l z z2⟩:Tb)),⟨d.dk.A,d.dk.q,d.dk.l⟩,d.Ae,d.qe,d.effs,d.cost,d.As,d.qs,d.stack,d.next,d.sends,d.disks,d.fault⟩:Dm),rfl,StD.one hL om (hx1.t0 om om) (hx1.e0 om om om) (by rw[show x.kind=2 by omega];unfold aJf;rw[aEa (by decide),aEh rfl,hj,Int.toNat_natCast,aJg hz,aJg hz2,hgt];simp[Dm.val,map_set,-List.map_set])⟩
 refine Jz 6 ?_
 refine Jcp rfl ?_ ?_<;>intro k71
 have hL1:x.exprs.length=1:=hx1.ar.1 om
 obtain⟨z,hz⟩:=exg L 0 om
 obtain⟨hts,j,hj,hjn⟩:=hx1.t om
 have hjl:j<d.tabs.length:=om
 obtain⟨t,htj⟩:=exg d.tabs j om
 have htm:=mog htj
 have hg:Good t.l:=ho.good t.l (aEv.2 ⟨t,htm,rfl⟩)
 have hgl:=hg.len
 refine Lt (p:=d.At=some ⟨blk d.At,ofs d.At,none⟩) (fun w hw=>Oe Nf (by decide) (l:=d.tabs) om 2 rfl hw) (fun hAt=>?_)
 refine rV 3 rfl (Ou htj Tb.ar) ?_
 have hgt:d.val.tabs.getD j []=t.l:=by rw[aEx];show((d.tabs.map Tb.l)[j]?).getD []=t.l;rw[aEp,htj];rfl
 refine Jfw [] [0,1,2,5,6,7,12,103,304,108,309,110,111,113,114,415,16016,16517] (ocn _) ?_
 refine Jz 8 ?_
 refine Fw.qf ((aIu b s hh F oi d c ht.comp ht.vl x.name).mono (R':=fun v _=>v=nv j) (fun v _ h=>by rw[h,hts,hj])) (ocs (PX 1 rfl) (ocs (oca 11 rfl) (ocs (oca 12 rfl) (ocn _)))) ?_
 refine Jz 1 ?_
 refine Fw.qf ((aIu b s hh F oi d c ht.comp ht.vl x.name).mono (R':=fun v _=>v=nv j) (fun v _ h=>by rw[h,hts,hj])) (ocs (PX 1 rfl) (ocs (oca 11 rfl) (ocs (oca 12 rfl) (ocn _)))) ?_
 refine Fw.r rfl (Cr (v':= .pointer (some ⟨blk d.At,ofs d.At+j*1,none⟩)) rfl (Dg (j:=j) hAt rfl rfl rfl s57 hjl)) ?_
 refine Jz 3 ?_
 refine Gj rfl rfl rfl rfl rfl .fc (pG t.A t.q t.l z om) rfl (ocs (oca 0 rfl) (ocn _)) ?_
 rintro _ _ ⟨Bd,qd,rfl,rfl⟩
 refine⟨rfl,?_⟩
 refine Fw.f rfl (Cr (v':= .pointer (some ⟨blk d.At,ofs d.At+j*1,none⟩)) rfl (Dg (j:=j) hAt rfl rfl rfl s57 hjl)) ?_
 refine Fw.up rfl rfl rfl (Up.store (i:=4) rfl rfl rfl c58 rfl rfl (Ee Nf (y:=(⟨Bd,qd,(Im t.l z)⟩:Tb)) (by decide) om)) (ocn _) ?_
 refine Jz 2 ?_
 refine Cq (Jas [ros Be Bd (Im t.l z),ros Be t.A t.l,box b [vs s.Aa s.args s.qa,iv s.now,vs s.Ag s.flags s.qg,iv s.dsk,vs s.Af s.fail s.qf,vs d.Av d.vars d.qv,vs d.At (d.tabs.set j (⟨Bd,qd,Im t.l z⟩:Tb)) d.qt,vs d.dk.A d.dk.l d.dk.q,vs d.Ae d.effs d.qe,iv d.cost,vs d.As d.stack d.qs,iv d.disks,iv d.sends, .bool d.fault, .string hh.name,vs hh.Ap hh.ps hh.qp,vs hh.Ab hh.body hh.qb, .string F.name,vs F.Af F.flags F.qf,vs F.Al F.links F.ql,vs F.Ac F.comps F.qc,nv oi] 136,rows aLz 2 1 d.Av d.qv d.vars,rows Tb.cells 58 1 d.At d.qt (d.tabs.set j (⟨Bd,qd,(Im t.l z)⟩:Tb)),De Be (d.tabs.map Tb.ar),ros Be d.dk.A d.dk.l,rows Dp 131 8 d.Ae d.qe d.effs,De aLz (d.effs.map Ef.ar),rows aLz 2 1 d.As d.qs d.stack,ros aMb hh.Ap hh.ps,ros Gx F.Af F.flags,ros Jl F.Ac F.comps,ros Oj c.Av c.vars,ros aLz s.Aa s.args,ros Qv s.Ag s.flags,ros aLz s.Af s.fail,all (F.kids eR),box b3 (aMc x) 217,ros Dk x.A x.exprs,all (lsF Dk x.A x.exprs),all (lsG Dk aMc x.At x.thn),all (lsG Dk aMc x.Ae x.els),rows aLz 2 1 Al ql L] (by(try unfold vs);rw[aEj]<;>rfl) (La ((d.tabs.set j (⟨Bd,qd,Im t.l z⟩:Tb)).map Tb.ar) 5 rfl (Ww (mog (i:=0) rfl)) (aIe (aKw (aId (aJd (aJc (aJb (WE (WC (wI (iA (bI (Pz (Iw (Fy (Lj (Cu (Df (Ic (Ic (Ic (Co (.inr rfl) results75 ?_)))))))))))))))))))))))
 exact⟨rfl,(⟨d.Av,d.qv,d.vars,d.At,d.qt,(d.tabs.set j (⟨Bd,qd,Im t.l z⟩:Tb)),⟨d.dk.A,d.dk.q,d.dk.l⟩,d.Ae,d.qe,d.effs,d.cost,d.As,d.qs,d.stack,d.next,d.sends,d.disks,d.fault⟩:Dm),rfl,StD.one hL om (hx1.t0 om om) (hx1.e0 om om om) (by rw[show x.kind=3 by omega];unfold aJf;rw[aEa (by decide),aEa (by decide),aEh rfl,hj,Int.toNat_natCast,aJg hz,hgt];simp[Dm.val,map_set,-List.map_set])⟩
 refine Jz 6 ?_
 refine Jcp rfl ?_ ?_<;>intro k90
 refine Js ?_
 have hL1:x.exprs.length=1:=hx1.ar.1 om
 obtain⟨z,hz⟩:=exg L 0 om
 refine Jz 7 ?_
 refine Jcp rfl ?_ ?_<;>intro k95
 refine Jz 4 ?_
 refine Jcf [0,0,0,0,0,0,0,0,0,0,0,0,0,0,0,0,3] (ihT x.At x.qt d ho.weak hx1.thn om) ?_
 rintro _ _ ⟨rfl,d2,rfl,hbd⟩
 refine Jn (Jbn (Iw (Fy (Gu (Jk (Kt (Co (.inr rfl) results75 ?_)))))))
 exact⟨rfl,d2,rfl,StD.ife hL om hL1 hz (by rw[aEa k95];exact hbd)⟩
 refine Jz 4 ?_
 refine Jcf [0,0,0,0,0,0,0,0,0,0,0,0,0,0,0,0,4] (ihE x.Ae x.qe d ho.weak hx1.els om) ?_
 rintro _ _ ⟨rfl,d2,rfl,hbd⟩
 refine Jn (Jbn (Iw (Fy (Gu (Jk (Kt (Co (.inr rfl) results75 ?_)))))))
 exact⟨rfl,d2,rfl,StD.ife hL om hL1 hz (by rw[aEh (Decidable.of_not_not k95)];exact hbd)⟩
 refine Jz 6 ?_
 refine Jcp rfl ?_ ?_<;>intro k104
 refine Js ?_
 obtain⟨to,h,y,hty,htn,hih,htg⟩:=hx1.s om
 have htl:=(aEc.1 hty).1
 refine Jz 17 ?_
 refine Lf (fun u g mz ρ Γ=>∃(i:Nat),ρ=[u 0,u 3,u 4,(8,nv ((if to<i then to else 0))),u 110,u 111,(112,nv i)]∧Γ=[g 0,g 1,g 2,g 3,g 4,g 5,g 6,g 7,g 8,g 9,g 10,g 11,g 12,g 13,g 14,g 15,g 16,g 17,g 18,g 19,g 20,g 21]∧mz=F.comps.length-i∧(i≤F.comps.length)) ⟨⟨0,rfl,rfl,rfl,om⟩,⟨rfl,rfl,rfl,(congrArg (fun n:Nat=>some (iv (n:Int))) (aEa (Nat.not_lt_zero _)).symm),rfl,rfl,rfl,trivial⟩⟩ ?_
 rintro mz _ _ ⟨i,rfl,rfl,rfl,hi⟩
 refine Jz 6 ?_
 refine Jcp rfl ?_ ?_<;>intro k113
 obtain⟨w,hw⟩:=exg F.comps i om
 refine Jz 9 ?_
 refine Jal fun b10=>?_
 refine Jz 10 ?_
 refine Jr (Nt rfl rfl rfl) ?_
 refine Jn (Jt (Jcp rfl (fun k121=>?_) (fun k121=>?_)))
 refine Jz 11 ?_
 refine Cg ⟨⟨i+1,rfl,rfl,rfl,om⟩,⟨rfl,rfl,rfl,(congrArg (fun n:Nat=>some (iv (n:Int))) (by have:=(htn i w hw).1 (by assumption);rw[aEh om];omega)),rfl,rfl,rfl,trivial⟩⟩
 refine Jz 8 ?_
 refine Cg ⟨⟨i+1,rfl,rfl,rfl,om⟩,⟨rfl,rfl,rfl,(congrArg (fun n:Nat=>some (iv (n:Int))) (by have:i≠to:=fun e=>absurd ((htn i w hw).2 e) (by assumption);by_cases h1:to<i;rw[aEh h1,aEh om];rw[aEa h1,aEa om])),rfl,rfl,rfl,trivial⟩⟩
 refine Jz 5 ?_
 rw[show(if to<i then to else 0)=to from aEh om]
 refine UQ (Cq ?_)
 have hL6:=hx1.ar.2.2.1 om
 
 refine Db 16 rfl (Cm.kids eR y) (y.lax eR) (fun z hz=>VI hty hz) (Jfw [] [0,1,2,3,4,5,7,10,13,106,108,109,111,312,14,515] (ocn _) ?_)
 refine Jz 13 ?_
 refine gQ rfl rfl rfl rfl .fc (aJw y (hB.each y (mog hty)).2.1 (hB.each y (mog hty)).2.2 (hHn y (mog hty)) x.hand h hih) (by show owns (y.kids eR)++[]=[];rw[(y.lax eR).owns];rfl) (ocs (oca 0 rfl) (ocn _)) ?_
 refine Fw.f rfl (.bd [iv 1,nv to,nv h,iv 0,iv 0,iv 0, .bool false,vs Al L ql]) ?_
 refine Da [2,2,2,2,2,2,2,2,1] (aKe b s hh F oi d (⟨1,((to:Nat):Int),((h:Nat):Int),0,0,0,false,Al,ql,L⟩:Ef) hel ho.sends) ?_
 rintro _ _ ⟨rfl,d',rfl,hv⟩
 refine⟨ocn _,?_⟩
 refine Jz 2 ?_
 refine aJd (aJc (aJb (WE (WC (wI (iA (bI (Pz (Iw (Fy (Gu (Jk (Kt (Co (.inr rfl) results75 ?_))))))))))))))
 exact⟨rfl,d',rfl,StD.one hL om (hx1.t0 om om) (hx1.e0 om om om) (by rw[show x.kind=6 by omega,hv];exact aLh ho.sends rfl (by rw[htg];rfl))⟩
 refine Jz 6 ?_
 refine Jcp rfl ?_ ?_<;>intro k140
 refine UQ ?_
 obtain⟨h,hih,hah⟩:=hx1.h om
 have hL7:=hx1.ar.2.2.2.1 om
 have hLp:L.length=(L.length-1)+1:=om
 obtain⟨z,hz⟩:=exg L 0 om
 refine Lt (p:=L.length≤ql) (fun w hw=>Mw 0 rfl hw) (fun hqp=>?_)
 refine Cq (bJ Cy ql 1 0 rfl hqp om (Db 17 rfl (Cm.kids eR c) (c.lax eR) (fun z hz=>VI ht.comp hz) (Jfw [] [0,1,2,3,4,6,7,8,12,15,18,19,105,109,110,111,113,314,116,117,20,521] (ocn _) ?_)))
 refine Jz 11 ?_
 refine Fw.f rfl (Cr (v':= .slice (Hr Al ql 1 1) (L.drop 1).length (ql-1)) (congrArg (fun z=>Value.slice (Hr Al ql 1 1) z (ql-1)) (aFk).symm) (Mh (lo:=1) rfl s28 rfl rfl om)) ?_
 refine Jz 2 ?_
 refine Fw.r rfl (Yb BB (i:=13) (j:=oi) rfl rfl rfl s34 rfl ht.comp) ?_
 refine Fw.r rfl (Ij (i:=13) rfl rfl r97 rfl (rsg BB ht.comp) (BB.len _)) ?_
 refine Jz 1 ?_
 refine gQ rfl rfl rfl rfl .fc (aJw c (hB.each c (mog ht.comp)).2.1 (hB.each c (mog ht.comp)).2.2 (hHn c (mog ht.comp)) x.hand h hih) (by show owns (c.kids eR)++[]=[];rw[(c.lax eR).owns];rfl) (ocs (oca 0 rfl) (ocn _)) ?_
 refine Jz 2 ?_
 refine Fw.f rfl (.bd [iv 2,iv 0,nv h,iv z,iv 0,iv 0, .bool false,vs (Hr Al ql 1 1) (L.drop 1) (ql-1)]) ?_
 refine Da [3,3,3,3,3,3,3,3,1] (aKe b s hh F oi d (⟨2,0,((h:Nat):Int),z,0,0,false,(Hr Al ql 1 1),(ql-1),(L.drop 1)⟩:Ef) hel ho.sends) ?_
 rintro _ _ ⟨rfl,d',rfl,hv⟩
 refine⟨ocn _,?_⟩
 refine Jz 2 ?_
 refine aId (aJd (aJc (aJb (WE (WC (wI (iA (bI (Pz (Iw (Fy (Gu (Jk (Kt (Co (.inr rfl) results75 ?_)))))))))))))))
 exact⟨rfl,d',rfl,StD.one hL om (hx1.t0 om om) (hx1.e0 om om om) (by rw[show x.kind=7 by omega,hv];exact aLc ho.sends hah (aJg hz))⟩
 refine Jz 6 ?_
 refine Jcp rfl ?_ ?_<;>intro k164
 refine Js ?_
 have hL2:x.exprs.length=2:=hx1.ar.2.1 om
 obtain⟨z,hz⟩:=exg L 0 om
 obtain⟨z2,hz2⟩:=exg L 1 om
 refine Px 14 rfl rfl (Jfw [] [0,1,4,102,103,105,106,507] (ocn _) ?_)
 refine Jz 7 ?_
 refine Da [1,1,1,1,1,1,1,1,0] (aKr b s hh F oi d z z2 hel hdd hdsk hfl ho.disk) ?_
 rintro _ _ ⟨rfl,d',rfl,hv⟩
 refine⟨ocn _,?_⟩
 refine Jz 2 ?_
 refine Ed rfl ?_ ?_<;>intro k173
 refine Jz 4 ?_
 refine Jcf [0,0,0,0,0,0,0,0,0,0,0,0,0,0,0,0,4] (ihE x.Ae x.qe d' (by rw[hv];exact OkT.sto ho s z z2) hx1.els om) ?_
 rintro _ _ ⟨rfl,d2,rfl,hbd⟩
 refine Jn (Jbn (Iw (Fy (Gu (Jk (Kt (Co (.inr rfl) results75 ?_)))))))
 exact⟨rfl,d2,rfl,StD.sto hL om hL2 hz hz2 (hx1.t0 om om) (by rw[aEh (show aIw s d.val=true from by assumption)];rw[hv]at hbd;exact hbd)⟩
 refine Jz 2 ?_
 refine aJd (aJc (aJb (WE (WC (wI (iA (bI (Pz (Iw (Fy (Gu (Jk (Kt (Co (.inr rfl) results75 ?_))))))))))))))
 exact⟨rfl,d',rfl,StD.sto hL om hL2 hz hz2 (hx1.t0 om om) (by rw[aEa (by show¬decide (s.dsk+d.disks∈s.fail)=true;simpa using k173),hv];exact Bd.nil _)⟩
 refine Jz 6 ?_
 refine Jcp rfl ?_ ?_<;>intro k178
 refine Js ?_
 have hL1:x.exprs.length=1:=hx1.ar.1 om
 obtain⟨z,hz⟩:=exg L 0 om
 obtain⟨hvs,j,hj,hjn⟩:=hx1.v om
 have hjl:j<d.vars.length:=om
 obtain⟨y0,hy0⟩:=exg d.vars j om
 refine Lt (p:=d.Av=some ⟨blk d.Av,ofs d.Av,none⟩) (fun w hw=>Oe Cy (by decide) (l:=d.vars) om 1 rfl hw) (fun hAv=>?_)
 refine Px 14 rfl rfl (Jfw [] [0,1,2,5,103,304,106,107,508] (ocn _) ?_)
 refine Jz 5 ?_
 refine Fw.qf ((aIu b s hh F oi d c ht.comp ht.vl x.name).mono (R':=fun v _=>v=nv j) (fun v _ h=>by rw[h,hvs,hj])) (ocs (PX 1 rfl) (ocs (oca 11 rfl) (ocs (oca 12 rfl) (ocn _)))) ?_
 refine Jz 2 ?_
 refine Da [1,1,1,1,1,1,1,1,0] (aKs b s hh F oi d j y0 z hy0 hel hdd hdsk hfl ho.disk) ?_
 rintro _ _ ⟨rfl,d',rfl,hv⟩
 refine⟨ocn _,?_⟩
 refine Jz 2 ?_
 refine Ed rfl ?_ ?_<;>intro k188
 refine Jz 4 ?_
 refine Jcf [0,0,0,0,0,0,0,0,0,0,0,0,0,0,0,0,4] (ihE x.Ae x.qe d' (by rw[hv];exact OkT.fet ho s j z) hx1.els om) ?_
 rintro _ _ ⟨rfl,d2,rfl,hbd⟩
 refine Jn (Jbn (Iw (Fy (Gu (Jk (Kt (Co (.inr rfl) results75 ?_)))))))
 exact⟨rfl,d2,rfl,StD.fet hL om hL1 hz hj (hx1.t0 om om) (by rw[aEh (show aIw s d.val=true from by assumption)];rw[hv]at hbd;exact hbd)⟩
 refine Jz 2 ?_
 refine aJd (aJc (aJb (WE (WC (wI (iA (bI (Pz (Iw (Fy (Gu (Jk (Kt (Co (.inr rfl) results75 ?_))))))))))))))
 exact⟨rfl,d',rfl,StD.fet hL om hL1 hz hj (hx1.t0 om om) (by rw[aEa (by show¬decide (s.dsk+d.disks∈s.fail)=true;simpa using k188),hv];exact Bd.nil _)⟩
 refine Jz 6 ?_
 refine Jcp rfl ?_ ?_<;>intro k193
 refine Jz 7 ?_
 refine aJd (aJc (aJb (WE (WC (wI (iA (bI (Pz (Iw (Fy (Gu (Jk (Kt (Co (.inr rfl) results75 ?_))))))))))))))
 exact⟨rfl,(⟨d.Av,d.qv,d.vars,d.At,d.qt,d.tabs,⟨d.dk.A,d.dk.q,d.dk.l⟩,d.Ae,d.qe,d.effs,d.cost,d.As,d.qs,d.stack,d.next,d.sends,d.disks,true⟩:Dm),rfl,StD.one hL om (hx1.t0 om om) (hx1.e0 om om om) (by rw[show x.kind=10 by omega];rfl)⟩
 refine Jz 2 ?_
 refine aJd (aJc (aJb (WE (WC (wI (iA (bI (Pz (Iw (Fy (Gu (Jk (Kt (Co (.inr rfl) results75 ?_))))))))))))))
 exact⟨rfl,d,rfl,absurd hx1.kind om⟩
def PSt(b:Nat)(s:Sm)(hh:Hd)(F:Fl)(oi:Nat)(c:Cm)(cc:Cc)(mv nt:Nat)(x:St):Prop:=∀d:Dm,x.kind≠5→GS hh F c cc mv nt x.pure→OkT mv nt 1 d.val→d.fault=false→Dz 75 [pv b, .agg (aMc x).toArray] [box b (cT s hh F oi d) 136,rows aLz 2 1 d.Av d.qv d.vars,rows Tb.cells 58 1 d.At d.qt d.tabs,De Be (d.tabs.map Tb.ar),ros Be d.dk.A d.dk.l,rows Dp 131 8 d.Ae d.qe d.effs,De aLz (d.effs.map Ef.ar),rows aLz 2 1 d.As d.qs d.stack,ros aMb hh.Ap hh.ps,ros Gx F.Af F.flags,ros Jl F.Ac F.comps,ros Oj c.Av c.vars,ros aLz s.Aa s.args,ros Qv s.Ag s.flags,ros aLz s.Af s.fail,all (F.kids eR),all (lsF Dk x.A x.exprs),all (lsG Dk aMc x.At x.thn),all (lsG Dk aMc x.Ae x.els)] (fun v Γ'=>v= .tuple #[]∧∃d':Dm,Γ'=[box b (cT s hh F oi d') 136,rows aLz 2 1 d'.Av d'.qv d'.vars,rows Tb.cells 58 1 d'.At d'.qt d'.tabs,De Be (d'.tabs.map Tb.ar),ros Be d'.dk.A d'.dk.l,rows Dp 131 8 d'.Ae d'.qe d'.effs,De aLz (d'.effs.map Ef.ar),rows aLz 2 1 d'.As d'.qs d'.stack]∧StD cc s x.pure d.val d'.val)
theorem aKk(b:Nat)(s:Sm)(hh:Hd)(F:Fl)(oi:Nat)(d:Dm)(c:Cm)(cc:Cc)(mv nt:Nat)(ht:TrE s hh F c oi)(hB:aDn F)(hdsk:0≤s.dsk∧s.dsk≤1000000000)(hfl:s.fail.length≤1000000)(l:List St)(ih:∀x∈l,PSt b s hh F oi c cc mv nt x∧(PBd b s hh F oi c cc mv nt x.thn))(hbl:∀x∈l,x.thn.length≤1000∧x.els.length≤1000)(A:OA)(q:Nat)(ho:OkT mv nt 0 d.val)(hg:∀y∈l,GS hh F c cc mv nt y.pure)(hll:l.length≤1000):
    Dz 42 [pv b,vs A l q] [box b (cT s hh F oi d) 136,rows aLz 2 1 d.Av d.qv d.vars,rows Tb.cells 58 1 d.At d.qt d.tabs,De Be (d.tabs.map Tb.ar),ros Be d.dk.A d.dk.l,rows Dp 131 8 d.Ae d.qe d.effs,De aLz (d.effs.map Ef.ar),rows aLz 2 1 d.As d.qs d.stack,ros aMb hh.Ap hh.ps,ros Gx F.Af F.flags,ros Jl F.Ac F.comps,ros Oj c.Av c.vars,ros aLz s.Aa s.args,ros Qv s.Ag s.flags,ros aLz s.Af s.fail,all (F.kids eR),all (lsG Dk aMc A l)] (fun v Γ'=>v= .tuple #[]∧∃d':Dm,Γ'=[box b (cT s hh F oi d') 136,rows aLz 2 1 d'.Av d'.qv d'.vars,rows Tb.cells 58 1 d'.At d'.qt d'.tabs,De Be (d'.tabs.map Tb.ar),ros Be d'.dk.A d'.dk.l,rows Dp 131 8 d'.Ae d'.qe d'.effs,De aLz (d'.effs.map Ef.ar),rows aLz 2 1 d'.As d'.qs d'.stack]∧Bd cc s (Ba l) d.val d'.val):=by
 refine Am func42 ntmps42 fun w0=>?_
 refine Jz 8 ?_
 refine To.one 16 rfl (ros aMc A l) rfl (aEd ..) (Cw (fun u g mz ρ Γ=>∃(e:Dm) (i:Nat),ρ=[u 0,u 6,u 7,(8,nv i)]∧Γ=[box b (cT s hh F oi e) 136,rows aLz 2 1 e.Av e.qv e.vars,rows Tb.cells 58 1 e.At e.qt e.tabs,De Be (e.tabs.map Tb.ar),ros Be e.dk.A e.dk.l,rows Dp 131 8 e.Ae e.qe e.effs,De aLz (e.effs.map Ef.ar),rows aLz 2 1 e.As e.qs e.stack,g 9,g 10,g 11,g 12,g 13,g 14,g 15,g 16,g 17,g 0]∧mz=l.length-i∧(i≤l.length)∧(OkT mv nt 0 e.val)∧(∀w,Bd cc s ((Ba l).drop i) e.val w→Bd cc s (Ba l) d.val w)) ⟨⟨d,0,rfl,rfl,rfl,om,ho,(fun _ h=>h)⟩,sb⟩ ?_)
 rintro mz _ _ ⟨e,i,rfl,rfl,rfl,hi,hoe,hI⟩
 refine Jz 6 ?_
 refine Jcp rfl ?_ ?_<;>intro k9
 obtain⟨x,hx⟩:=exg l i om
 have hgx:=hg x (mog hx)
 have hx1:=hgx.at
 have hcost_e:0≤e.cost∧e.cost≤200:=hoe.cost
 have hel_e:e.effs.length≤4000000:=by have h1:=hoe.effs;rw[show e.val.effs.length=e.effs.length from aEg ..]at h1;have h2:e.val.cost=e.cost:=rfl;split at h1<;>omega
 rw[aKu hx]at hI
 refine Jz 8 ?_
 refine Jal fun b5=>?_
 refine Jz 12 ?_
 refine Ed rfl ?_ ?_<;>intro k15
 refine Jz 6 ?_
 refine WE (WC (wI (iA (bI (Pz (Iw (Fy (Gu (Jk (Du (Co (.inl rfl) results42 ?_)))))))))))
 exact⟨rfl,e,rfl,hI _ (Bd.halt k15)⟩
 refine Jz 4 ?_
 refine Db 17 rfl (lsF Dk x.A x.exprs) (Ma _ _ _) (fun c hc=>Kw hx c (Ll x c hc)) (Db 18 rfl (lsG Dk aMc x.Ae x.els) (Dx _ _ _ _) (fun c hc=>Kw hx c (Ji x c hc)) (Db 19 rfl (lsG Dk aMc x.At x.thn) (Dx _ _ _ _) (fun c hc=>Kw hx c (Kj x c hc)) (Jz 6 ?_)))
 refine Jcp rfl ?_ ?_<;>intro k18
 refine Js (To.b (Cw (fun u j mz ρ Γ=>∃(g:Dm),ρ=[u 0,u 5,u 6,u 7,u 8]∧Γ=[box b (cT s hh F oi g) 136,rows aLz 2 1 g.Av g.qv g.vars,rows Tb.cells 58 1 g.At g.qt g.tabs,De Be (g.tabs.map Tb.ar),ros Be g.dk.A g.dk.l,rows Dp 131 8 g.Ae g.qe g.effs,De aLz (g.effs.map Ef.ar),rows aLz 2 1 g.As g.qs g.stack,j 12,j 13,j 14,j 15,j 16,j 17,j 18,j 19,j 20,j 21,j 3,j 2,j 0,j 1]∧mz=(201-g.cost).toNat∧(OkT mv nt 0 g.val)∧(∀w,Bd cc s (x.pure::(Ba l).drop (i+1)) g.val w→Bd cc s (Ba l) d.val w)) ⟨⟨e,rfl,rfl,rfl,hoe,hI⟩,sb⟩ ?_))
 rintro mz _ _ ⟨g,rfl,rfl,rfl,hog,hJ⟩
 refine Js (Js ?_)
 have hcost_g:0≤g.cost∧g.cost≤200:=hog.cost
 have hel_g:g.effs.length≤4000000:=by have h1:=hog.effs;rw[show g.val.effs.length=g.effs.length from aEg ..]at h1;have h2:g.val.cost=g.cost:=rfl;split at h1<;>omega
 have hal:x.exprs.length=1:=hx1.ar.1 om
 obtain⟨a,ha⟩:=exg x.exprs 0 om
 refine To.one 19 rfl (ros Dk x.A x.exprs) rfl (aEd ..) (Db 20 rfl (a.kids Dk) (Ex.lax Dk a) (Yo ha) (Jz 6 ?_))
 refine JgB ?_ ?_<;>intro g24
 have hgf:g.val.fault=false:=by show g.fault=false;simpa using g24
 refine Jm ?_
 refine Jcf [2,2,2,2,2,2,2,2] (aKn b s hh F oi g hel_g hcost_g) ?_
 rintro _ _ ⟨rfl,p2,rfl,hp2⟩
 refine aIl ?_
 refine JgP ?_ ?_<;>intro g28
 have hgc:g.val.cost<200:=g28
 have hpe:p2.val=pF g.val:=by rw[hp2,aKp hgc]
 have hop:OkT mv nt 1 p2.val:=by rw[hpe];exact hog.pay hgf hgc
 refine Jz 5 ?_
 refine Jvf (aKa b s hh F oi p2 c cc ht hop.good a (by rw[show p2.vars.length=mv from hop.vars,show p2.tabs.length=nt from(aEg ..).symm.trans hop.tabs];exact hx1.e a (mog ha))) (by show owns (a.kids Dk)++[]=[];rw[(Ex.lax Dk a).owns];rfl) (ocs (PX 0 rfl) (ocs (oca 10 rfl) (ocs (oca 11 rfl) (ocs (oca 12 rfl) (ocs (oca 13 rfl) (ocs (oca 14 rfl) (ocs (oca 15 rfl) (ocs (Ht 1 rfl) (ocs (Ht 2 rfl) (ocs (oca 3 rfl) (ocs (oca 8 rfl) (ocn _)))))))))))) ?_
 refine Jz 4 ?_
 refine Jcp rfl ?_ ?_<;>intro k36
 refine Jz 3 ?_
 refine Px 10 rfl rfl (Px 12 rfl rfl (Px 14 rfl rfl (Px 16 rfl rfl (Px 18 rfl rfl (Px 20 rfl rfl (Px 22 rfl rfl (Db 24 rfl (F.kids eR) (Fl.lax eR F) (fun z hz=>hz) (Db 26 rfl (lsG Dk aMc x.At x.thn) (Dx _ _ _ _) (fun c hc=>Kw hx c (Kj x c hc)) (Jz 4 ?_)))))))))
 refine Jcf [9,9,9,9,9,9,9,9,8,7,6,5,4,3,2,1,0] ((ih x (mog hx)).2 x.At x.qt p2 (OkT.weak hop) hx1.thn (hbl x (mog hx)).1) ?_
 rintro _ _ ⟨rfl,g2,rfl,hbd⟩
 have hup:g.cost+1≤g2.cost:=by have h1:=Bd.up hbd;rw[hpe]at h1;exact h1
 refine Jz 3 ?_
 refine Cg ⟨⟨g2,rfl,rfl,rfl,(Bd.ok hbd (OkT.weak hop)),(aLo hgf hgc om hal ha (hx1.e0 om om om) (by rw[←hpe];exact k36) (by rw[←hpe];exact hbd) hJ)⟩,sb⟩
 refine Jz 14 ?_
 refine Cg ⟨⟨p2,i+1,rfl,rfl,rfl,om,hop.weak,(by rw[hpe];exact aLn hgf hgc om hal ha (hx1.e0 om om om) (by rw[←hpe];exact Decidable.of_not_not k36) hJ)⟩,sb⟩
 refine Jz 25 ?_
 refine Cg ⟨⟨p2,i+1,rfl,rfl,rfl,om,(by rw[hp2,aJq g28];exact hog.flt hgf),(by rw[hp2,aJq g28];exact aKo hgf (by have h1:¬g.val.cost<200:=g28;have h2:=hog.cost;omega) hJ)⟩,sb⟩
 refine Jz 29 ?_
 refine Cg ⟨⟨g,i+1,rfl,rfl,rfl,om,hog,(aLm (by show g.fault=true;simpa using g24) hJ)⟩,sb⟩
 refine Jz 5 ?_
 refine Jcf [4,4,4,4,4,4,4,4] (aKn b s hh F oi e hel_e hcost_e) ?_
 rintro _ _ ⟨rfl,p,rfl,hp⟩
 refine Jn (Jt (Jcp rfl (fun k42=>?_) (fun k42=>?_)))
 have hef:e.val.fault=false:=k15
 have hec:e.val.cost<200:=k42
 have hpe1:p.val=pF e.val:=by rw[hp,aKp hec]
 have hop:OkT mv nt 1 p.val:=by rw[hpe1];exact hoe.pay hef hec
 have hpf:p.fault=false:=by show p.val.fault=false;rw[hpe1];exact hef
 refine Px 12 rfl rfl (Px 14 rfl rfl (Px 16 rfl rfl (Px 18 rfl rfl (Px 20 rfl rfl (Px 22 rfl rfl (Px 24 rfl rfl (Db 26 rfl (F.kids eR) (Fl.lax eR F) (fun z hz=>hz) (Db 28 rfl (lsF Dk x.A x.exprs) (Ma _ _ _) (fun c hc=>Kw hx c (Ll x c hc)) (Db 29 rfl (lsG Dk aMc x.Ae x.els) (Dx _ _ _ _) (fun c hc=>Kw hx c (Ji x c hc)) (Db 30 rfl (lsG Dk aMc x.At x.thn) (Dx _ _ _ _) (fun c hc=>Kw hx c (Kj x c hc)) (Jz 3 ?_)))))))))))
 refine Jcf [11,11,11,11,11,11,11,11,10,9,8,7,6,5,4,3,2,0,0] ((ih x (mog hx)).1 p om hgx hop hpf) ?_
 rintro _ _ ⟨rfl,d',rfl,hst⟩
 refine Jz 8 ?_
 refine Cg ⟨⟨d',i+1,rfl,rfl,rfl,om,(Bd.ok (hst e.val [] _ hef hec hpe1.symm (.nil _)) hoe),(aLs hef hec (by rw[←hpe1];exact hst) hI)⟩,sb⟩
 have hef:e.val.fault=false:=k15
 refine Jz 8 ?_
 refine Cg ⟨⟨p,i+1,rfl,rfl,rfl,om,(by rw[hp,aJq k42];exact hoe.flt hef),(by rw[hp,aJq k42];exact aKo hef (by have h1:¬e.val.cost<200:=k42;have h2:=hoe.cost;omega) hI)⟩,sb⟩
 refine Jz 4 ?_
 refine WC (wI (iA (bI (Pz (Iw (Fy (Gu (Jk (Kt (Co (.inr rfl) results42 ?_))))))))))
 exact⟨rfl,e,rfl,hI _ (by rw[aFh (by rw[Je,aEg];omega)];exact .nil _)⟩
theorem aJk(b:Nat)(s:Sm)(hh:Hd)(F:Fl)(oi:Nat)(c:Cm)(cc:Cc)(mv nt:Nat)(ht:TrE s hh F c oi)(hB:aDn F)(hdsk:0≤s.dsk∧s.dsk≤1000000000)(hfl:s.fail.length≤1000000)(hHn:∀y∈F.comps,(hnames (y.vers.map Vs.pure)).length≤1000):∀l:List St,Dy (Ba l)→PBd b s hh F oi c cc mv nt l
 | l,hlow=>fun A q d ho hg hll=>
   have hbl:∀x∈l,(x.thn.length≤1000∧x.els.length≤1000)∧Dy (Ba x.thn)∧Dy (Ba x.els):=fun x hx=>by
    obtain⟨_,_,⟨h1,h2⟩,h3,h4⟩:=Qg (Oc hlow hx)
    exact⟨⟨by omega,by omega⟩,h2,h4⟩
   aKk b s hh F oi d c cc mv nt ht hB hdsk hfl l (fun x hx=>⟨fun d hk hg ho hf=>aKj b s hh F oi d c cc mv nt ht hB hdsk hfl hHn x hk hg (hbl x hx).1 ho hf (aJk b s hh F oi c cc mv nt ht hB hdsk hfl hHn x.thn (hbl x hx).2.1) (aJk b s hh F oi c cc mv nt ht hB hdsk hfl hHn x.els (hbl x hx).2.2),aJk b s hh F oi c cc mv nt ht hB hdsk hfl hHn x.thn (hbl x hx).2.1⟩) (fun x hx=>(hbl x hx).1) A q ho hg hll
termination_by l=>SizeOf.sizeOf l
decreasing_by
 all_goals
  have h:=aFq hx
  have:SizeOf.sizeOf x.thn<SizeOf.sizeOf x∧SizeOf.sizeOf x.els<SizeOf.sizeOf x:=by cases x;simp only[St.mk.sizeOf_spec];omega
  omega
end Go.Proofs.YtlihklladkagpaaGreatDoor

/- Own text. -/
import Derived.Test.YtlihklladkagpaaGreatDoorXg
import Derived.Test.YtlihklladkagpaaGreatDoorE1
set_option linter.unusedVariables false
set_option linter.unusedSimpArgs false
set_option maxHeartbeats 2000000
set_option maxRecDepth 100000
namespace Go.Proofs.YtlihklladkagpaaGreatDoor
open Go.Proofs.Tryz
open Go.RowKit Go.Flow Go.Mem Go.Sep
theorem yQ(A:OA)(q:Nat)(l:List Int)(hl:l.length≤1000000):
    Dz 33 [vs A l q] [ros encI A l] (fun v Γ'=>∃B p,v=vs B l p∧Γ'=[rows encI 3 1 B p l]):=by
 refine Am func33 ntmps33 fun w0=>?_
 refine Jz 9 ?_
 refine Jr (Cr (v':= .bool A.isNone) rfl (Tp (A:=A) rfl underlying62 rfl rfl)) ?_
 refine Jn (Jt (Ed rfl (fun c4=>?_) (fun c4=>?_)))
 refine Js (Lt (p:=l=[]) (fun w hw=>bL Cy (by decide) c4 0 rfl hw) (fun hl0=>?_))
 subst hl0
 refine Cz (encI) 3 1 (Jz 6 ?_)
 refine Ce [0] rfl (Je1 results33 ?_)
 exact⟨_,_,rfl,rfl⟩
 refine Jz 4 ?_
 refine Jmk rfl rfl rfl (Hg (enc:=encI) rfl s62) ?_
 rintro _ _ ⟨A5,rfl,rfl⟩
 refine Jm ?_
 refine Jge rfl rfl rfl (Hf Cy (i:=0) (m:=l) rfl s62 rfl rfl rfl (Ya (i:=1) rfl) om om) ?_
 rintro _ _ ⟨A7,q7,rfl,rfl⟩
 refine Jz 4 ?_
 refine Ce [0] rfl (Je1 results33 ?_)
 exact⟨_,_,rfl,rfl⟩
theorem yR(A:OA)(q:Nat)(l:List Tb)(hl:l.length≤1000000):
    Dz 36 [vs A l q] [ros Tb.cells A l] (fun v Γ'=>∃B p,v=vs B l p∧Γ'=[rows Tb.cells 54 1 B p l]):=by
 refine Am func36 ntmps36 fun w0=>?_
 refine Jz 9 ?_
 refine Jr (Cr (v':= .bool A.isNone) rfl (Tp (A:=A) rfl underlying51 rfl rfl)) ?_
 refine Jn (Jt (Ed rfl (fun c4=>?_) (fun c4=>?_)))
 refine Js (Lt (p:=l=[]) (fun w hw=>bL Nf (by decide) c4 0 rfl hw) (fun hl0=>?_))
 subst hl0
 refine Cz (Tb.cells) 54 1 (Jz 6 ?_)
 refine Ce [0] rfl (Je1 results36 ?_)
 exact⟨_,_,rfl,rfl⟩
 refine Jz 4 ?_
 refine Jmk rfl rfl rfl (Hg (enc:=Tb.cells) rfl s51) ?_
 rintro _ _ ⟨A5,rfl,rfl⟩
 refine Jm ?_
 refine Jge rfl rfl rfl (Hf Nf (i:=0) (m:=l) rfl s51 rfl rfl rfl (Ya (i:=1) rfl) om om) ?_
 rintro _ _ ⟨A7,q7,rfl,rfl⟩
 refine Jz 4 ?_
 refine Ce [0] rfl (Je1 results36 ?_)
 exact⟨_,_,rfl,rfl⟩
structure Cl where
 Aa:OA
 qa:Nat
 args:List Int
 now:Int
 Ag:OA
 qg:Nat
 flags:List Bool
 dsk:Int
 Af:OA
 qf:Nat
 fail:List Int
def Cl.cells(c:Cl):List Value:=[vs c.Aa c.args c.qa,iv c.now,vs c.Ag c.flags c.qg,iv c.dsk,vs c.Af c.fail c.qf]
def Cl.sm(c:Cl)(l:List Ins):Sm:=⟨none,0,l,none,0,c.args,c.now,none,0,c.flags,c.dsk,none,0,Ev Jb c.fail⟩
def VU(s t:Sm):Prop:=s.code=t.code∧s.args=t.args∧s.now=t.now∧s.flags=t.flags∧s.dsk=t.dsk∧s.fail=t.fail
theorem yS{s t:Sm}(h:VU s t)(x:Ins)(d:Dv):Bj s x d=Bj t x d:=by
 obtain⟨h1,h2,h3,h4,h5,h6⟩:=h
 unfold Bj Ng
 rw[h1,h2,h3,h4,h5,h6]
theorem nR{s t:Sm}(h:VU s t):∀(f:Nat) (d:Dv),Nl s f d=Nl t f d
 |0,d=>by rw[Nl,Nl,h.1]
 | f+1,d=>by
   rw[Nl,Nl,h.1]
   simp only[yS h,nR h f]
theorem vG(pr st:Int)(A:OA)(q:Nat)(l:List Ins)(a:Sx)(c:Cl)(hv0:Kg pr st l=0)(hc:l.length≤4000)(hpr:(c.args.length:Int)=pr)(href:∀x∈l,Fq x a.vars.length a.tabs.length c.flags.length=true)(hsm:a.vars.length≤1000000∧a.tabs.length≤1000000)(hfl:c.fail.length≤12)(hdsk:0≤c.dsk∧c.dsk≤1000000000)(hgt:∀y∈a.tabs,Good y.l)(hgd:Good a.dk.l)(hcaps:∀y∈a.tabs,y.l.length≤y.q)(hcapd:a.dk.l.length≤a.dk.q):
    Dz 12 [.agg #[iv pr,iv st,vs A l q], .agg #[vs a.Av a.vars a.qv,vs a.At a.tabs a.qt,vs a.dk.A a.dk.l a.dk.q], .agg #[vs c.Aa c.args c.qa,iv c.now,vs c.Ag c.flags c.qg,iv c.dsk,vs c.Af c.fail c.qf]] [ros Ins.cells A l,ros encI a.Av a.vars,ros Tb.cells a.At a.tabs,De Be (a.tabs.map Tb.ar),ros Be a.dk.A a.dk.l,ros encI c.Aa c.args,ros Qv c.Ag c.flags,ros encI c.Af c.fail,Kn] (fun v Γ'=>∃d':Dm,v= .tuple #[.agg #[vs d'.Av d'.vars d'.qv,vs d'.At d'.tabs d'.qt,vs d'.dk.A d'.dk.l d'.dk.q,vs d'.Ae d'.effs d'.qe,iv d'.cost],iv 0]∧Γ'=[rows encI 2 1 d'.Av d'.qv d'.vars,rows Tb.cells 54 1 d'.At d'.qt d'.tabs,De Be (d'.tabs.map Tb.ar),ros Be d'.dk.A d'.dk.l,rows Ef.cells 86 8 d'.Ae d'.qe d'.effs,De encI (d'.effs.map Ef.ar)]∧d'.val=Nl (c.sm l) 1048576 (d0G a.vars (a.tabs.map Tb.l) a.dk.l)∧Ry d'):=by
 refine Am func12 ntmps12 fun w0=>?_
 refine Js (To.g (Jbo fun b3=>?_))
 refine Jbo fun b4=>?_
 refine Jbo fun b5=>?_
 refine Jal fun b6=>?_
 refine Jz 7 ?_
 refine Jvf ((EG pr st A q l).mono (R':=fun v _=>v=iv 0) (fun v _ h=>by rw[h,hv0])) rfl (ocs (oca 4 rfl) (ocs (oca 12 rfl) (ocn _))) ?_
 refine Jz 23 ?_
 refine Jcp rfl ?_ ?_<;>intro k23
 exact absurd hpr k23
 refine Jz 12 ?_
 refine Le (Jj (Ic (Ie (fun mz ρ Γ=>∃(i:Nat),ρ=[(3,pv b3),(4,pv b4),(5,pv b5),(6,pv b6),(26,vs A l q),(27,nv l.length),(28,nv i)]∧Γ=[box b3 [iv pr,iv st,vs A l q] 43,box b4 [vs a.Av a.vars a.qv,vs a.At a.tabs a.qt,vs a.dk.A a.dk.l a.dk.q] 56,box b5 [vs c.Aa c.args c.qa,iv c.now,vs c.Ag c.flags c.qg,iv c.dsk,vs c.Af c.fail c.qf] 64,box b6 [nz,nz,nz,nz,iv 0] 70,ros Ins.cells A l,ros encI a.Av a.vars,ros Tb.cells a.At a.tabs,De Be (a.tabs.map Tb.ar),ros Be a.dk.A a.dk.l,ros encI c.Aa c.args,ros Qv c.Ag c.flags,ros encI c.Af c.fail,Kn]∧mz=l.length-i∧(i≤l.length)) (l.length-0) ⟨⟨0,rfl,rfl,rfl,(aEw _)⟩,sb⟩ ?_)))
 rintro mz _ _ ⟨i,rfl,rfl,rfl,hi⟩
 refine Jz 6 ?_
 refine Jcp rfl ?_ ?_<;>intro k29
 obtain⟨x,hx⟩:=exg l i om
 refine Jz 8 ?_
 refine Jal fun b10=>?_
 refine Jz 8 ?_
 refine Jvf ((EH x a.Av a.At a.dk.A c.Aa c.Ag c.Af a.vars.length a.qv a.tabs.length a.qt a.dk.l.length a.dk.q c.args.length c.qa c.flags.length c.qg c.fail.length c.qf c.now c.dsk).mono (R':=fun v _=>v= .bool true) (fun v _ h=>by rw[h,href x (mog hx)])) rfl (ocn _) ?_
 refine Jz 12 ?_
 refine Du (Vb (l.length-(i+1)) om ⟨⟨i+1,rfl,rfl,rfl,om⟩,sb⟩)
 refine Jz 10 ?_
 refine Jr (.bd [nz,nz,nz,nz,iv 0,vs A l q,vs c.Aa c.args c.qa,iv c.now,vs c.Ag c.flags c.qg,iv c.dsk,vs c.Af c.fail c.qf,nz,iv 0,iv 0,iv 0, .bool false]) ?_
 refine Jbo fun b43=>?_
 refine Jz 8 ?_
 refine Jqf (yQ c.Af c.qf c.fail om) rfl (ocs (oca 12 rfl) (ocn _)) ?_
 rintro _ _ ⟨Bf,pf,rfl,rfl⟩
 refine⟨rfl,?_⟩
 refine Jz 13 ?_
 refine Jcf [0] (KR Bf pf c.fail om) ?_
 rintro _ _ ⟨rfl,rfl⟩
 refine Jz 3 ?_
 refine Jas [rows encI 3 1 Bf pf (Ev Jb c.fail),box b43 [nz,nz,nz,nz,iv 0,vs A l q,vs c.Aa c.args c.qa,iv c.now,vs c.Ag c.flags c.qg,iv c.dsk,vs Bf (Ev Jb c.fail) pf,nz,iv 0,iv 0,iv 0, .bool false] 123,box b3 [iv pr,iv st,vs A l q] 43,box b4 [vs a.Av a.vars a.qv,vs a.At a.tabs a.qt,vs a.dk.A a.dk.l a.dk.q] 56,box b5 [vs c.Aa c.args c.qa,iv c.now,vs c.Ag c.flags c.qg,iv c.dsk,vs c.Af c.fail c.qf] 64,box b6 [nz,nz,nz,nz,iv 0] 70,ros Ins.cells A l,ros encI a.Av a.vars,ros Tb.cells a.At a.tabs,De Be (a.tabs.map Tb.ar),ros Be a.dk.A a.dk.l,ros encI c.Aa c.args,ros Qv c.Ag c.flags,ros encI c.Af c.fail,Kn] (by(try unfold vs);rw[Mt]<;>rfl) (Cq (Pp [box b4 [vs a.Av a.vars a.qv,vs a.At a.tabs a.qt,vs a.dk.A a.dk.l a.dk.q] 56] [⟨0,[],0⟩,⟨1,[],0⟩,⟨2,[],0⟩,⟨4,[],0⟩,⟨5,[],0⟩,⟨7,[],0⟩,⟨8,[],0⟩,⟨3,[],4⟩,⟨6,[3],4⟩,⟨9,[3,6],0⟩,⟨10,[3,6],0⟩,⟨11,[3,6],0⟩,⟨12,[3,6],0⟩,⟨13,[3,6],5⟩] mixed.h (by kernel_rfl) (ocs (oca 3 rfl) (ocn _)) (Jz 6 ?_)))
 refine Fw.f rfl (Ij (i:=0) (us:=[vs a.dk.A a.dk.l a.dk.q]) rfl rfl r54 rfl (Fh (n:=1) rfl) rfl) ?_
 refine Gj rfl rfl rfl rfl rfl .fc (iL a.Av a.qv a.vars hsm.1) rfl (ocs (oca 7 rfl) (ocn _)) ?_
 rintro _ _ ⟨Bv,pv,rfl,rfl⟩
 refine⟨rfl,?_⟩
 refine Gj rfl rfl rfl rfl rfl .fc (yR a.At a.qt a.tabs hsm.2) rfl (ocs (oca 9 rfl) (ocn _)) ?_
 rintro _ _ ⟨Bt,pt,rfl,rfl⟩
 refine⟨rfl,?_⟩
 refine Fw.f rfl (.bd [vs Bv a.vars pv,vs Bt a.tabs pt,vs a.dk.A a.dk.l a.dk.q]) ?_
 refine Jz 3 ?_
 refine Fw.up rfl rfl rfl (Bl (i:=3) rfl rfl rfl r56 rfl rfl rfl (Rf (ds:=[vs Bv a.vars pv,vs Bt a.tabs pt,vs a.dk.A a.dk.l a.dk.q,nz,iv 0,vs A l q,vs c.Aa c.args c.qa,iv c.now,vs c.Ag c.flags c.qg,iv c.dsk,vs Bf (Ev Jb c.fail) pf,nz,iv 0,iv 0,iv 0, .bool false]) rfl rfl)) (ocs (oca 5 rfl) (ocn _)) ?_
 refine Jz 3 ?_
 refine Cz (encI) 2 1 (Cz (Ef.cells) 86 8 (dC (enc:=encI) ?_))
 obtain⟨I,hR,hI⟩:=pR (s:=(⟨A,q,l,c.Aa,c.qa,c.args,c.now,c.Ag,c.qg,c.flags,c.dsk,Bf,pf,Ev Jb c.fail⟩:Sm)) (V:=a.vars) (tb:=a.tabs.map Tb.l) (dk:=a.dk.l) hv0 (fun x hx=>by rw[aEg];exact href x hx) hpr (Yi _) (by show(Ev Jb c.fail).length≤1000000;rw[Mt];omega) hdsk (fun t ht=>by obtain⟨y,hy,rfl⟩:=aEv.1 ht;exact hgt y hy) hgd
 refine Jz 2 ?_
 refine Jcf [6,4,3,11,11,1,0,0,8,8,0,4] (XB b43 (⟨A,q,l,c.Aa,c.qa,c.args,c.now,c.Ag,c.qg,c.flags,c.dsk,Bf,pf,Ev Jb c.fail⟩:Sm) I hR hc (⟨Bv,pv,a.vars,Bt,pt,a.tabs,a.dk,none,0,[],0,none,0,[],0,0,0,false⟩:Dm) hI ⟨hcaps,hcapd⟩) ?_
 rintro _ _ ⟨rfl,d',rfl,hv,hcap⟩
 refine Jz 7 ?_
 refine Jr (Ij (i:=0) (us:=[vs d'.Av d'.vars d'.qv,vs d'.At d'.tabs d'.qt,vs d'.dk.A d'.dk.l d'.dk.q,vs d'.Ae d'.effs d'.qe,iv d'.cost]) rfl rfl r70 rfl (Fh (n:=5) rfl) rfl) ?_
 refine Jz 5 ?_
 refine Lp [1,1,1,1,1,1] rfl (.inl rfl) results12 rfl (i:=11) rfl r70 rfl rfl ?_
 have e0:(⟨Bv,pv,a.vars,Bt,pt,a.tabs,a.dk,none,0,[],0,none,0,[],0,0,0,false⟩:Dm).val=d0G a.vars (a.tabs.map Tb.l) a.dk.l:=rfl
 rw[e0,nR (s:=(⟨A,q,l,c.Aa,c.qa,c.args,c.now,c.Ag,c.qg,c.flags,c.dsk,Bf,pf,Ev Jb c.fail⟩:Sm)) (t:=c.sm l) ⟨rfl,rfl,rfl,rfl,rfl,rfl⟩ 1048576]at hv
 exact⟨d',rfl,rfl,hv,hcap⟩
open Go.RowKit Go.Flow Go.Mem Go.Sep Go.In
abbrev cT(s:Sm)(hh:Hd)(F:Fl)(oi:Nat)(d:Dm):List Value:=[vs s.Aa s.args s.qa,iv s.now,vs s.Ag s.flags s.qg,iv s.dsk,vs s.Af s.fail s.qf,vs d.Av d.vars d.qv,vs d.At d.tabs d.qt,vs d.dk.A d.dk.l d.dk.q,vs d.Ae d.effs d.qe,iv d.cost,vs d.As d.stack d.qs,iv d.disks,iv d.sends, .bool d.fault, .string hh.name,vs hh.Ap hh.ps hh.qp,vs hh.Ab hh.body hh.qb, .string F.name,vs F.Af F.flags F.qf,vs F.Al F.links F.ql,vs F.Ac F.comps F.qc,nv oi]
theorem OE{c:Ct}{np n:Nat}:Each c np (fun x=>Fq x (c.ints+1) c.tables c.flags=true)∧LY n c.ints (fun x=>Fq x (c.ints+1) c.tables c.flags=true):=by
 refine⟨⟨fun k _ _=>?_,fun op ho=>?_,fun k hk=>?_,fun k hk=>?_,fun k hk=>?_,fun k hk=>?_,fun op ht ho=>?_,fun to h k h1 h2 h3=>?_,fun h k h1 h2=>?_⟩,⟨fun op t ho ht=>?_,fun t ht=>?_,fun k t hk ht=>?_⟩⟩
 ·simp[Fq]
 ·unfold Fq;rw[aEa (by dsimp only;omega),aEa (by dsimp only;omega),aEa (by dsimp only;omega)]
 ·simp[Fq];omega
 ·simp[Fq]
 ·simp[Fq];omega
 ·simp[Fq];omega
 ·unfold Fq;rw[aEa (by dsimp only;omega),aEa (by dsimp only;omega),aEh (by dsimp only;omega)];exact aEk (by dsimp only;omega)
 ·simp[Fq]
 ·simp[Fq]
 ·unfold Fq;rw[aEa (by dsimp only;omega),aEa (by dsimp only;omega),aEa (by dsimp only;omega)]
 ·simp[Fq]
 ·simp[Fq];omega
theorem YP{i t:Nat}(hi:i≤3)(ht:t≤1):nV (varsOf i t)=i+1∧nT (varsOf i t)=t:=by
 have h:∀i,i<4→∀t,t<2→nV (varsOf i t)=i+1∧nT (varsOf i t)=t:=by decide+kernel
 exact h i om t om
theorem aDr{F:Fl}(h:Ku F.pure){ci:Nat}{c:Cm}(hc:F.comps[ci]?=some c){v:Vs}(hv:v∈c.vers){x:Hd}(hx:x∈v.l):∀i∈Gh F c x,Fq i (nV c.vars) (nT c.vars) F.flags.length=true:=by
 obtain⟨ct,ar,ok⟩:=h.okC (Oo hc)
 have hgv:=ok.vers v.pure (aEv.2 ⟨v,hv,rfl⟩)
 obtain⟨k,hk⟩:=aFt hx
 have gh:=hgv.2.2 k x.pure (by show(v.l.map Hd.pure)[k]?=_;rw[aEp,hk];rfl)
 obtain⟨np,hnp,hps,hst⟩:=gh.ps
 have hnp2:np≤2:=(ok.ok.each ar (mog ok.arr)).2.2 np (mog hnp)
 have hps:x.ps=nms 112 np:=hps
 have hst:∀s∈Ba x.body,StE ct np 3 s:=hst
 have his:(ccR F.pure c.name c.vars (nms 112 np)).Is ct np:=ok.isR hnp2
 have fe:=OE (c:=ct) (np:=np) (n:=(Gh F c x).length)
 have e1:Gh F c x=cB (ccR F.pure c.name c.vars (nms 112 np)) (Ba x.body) 0:=by show cB (ccR F.pure c.name c.vars x.ps) _ _=_;rw[hps]
 have key:=Wd (Q:=fun i=>Fq i (ct.ints+1) ct.tables ct.flags=true) (n:=(Gh F c x).length) (Ba x.body) 0 (cc:=ccR F.pure c.name c.vars (nms 112 np)) (fun s hs p hp=>(hst s hs).all ok.ok fe.1 fe.2 his p hp) (by rw[←e1];omega)
 rw[←e1]at key
 have hvs:c.vars=varsOf ct.ints ct.tables:=ok.vars
 have hn:=YP ok.ok.ints.2 ok.ok.tables
 have hfl:F.flags.length=ct.flags:=by
  have h1:=congrArg List.length (show F.flags.map Fg.name=nms 102 ct.flags from ok.flags)
  rwa[aEg,Dq]at h1
 rw[hvs,hn.1,hn.2,hfl]
 exact key
theorem YQ{F:Fl}(hG:Ku F.pure){c:Cm}{k v:Nat}{s:ByteArray}(hc:F.comps[k]?=some c)(hv:1≤v∧v≤c.vers.length)(h:(Ei s none (c.vers.take v)).isSome=true):∀i∈(pU F c v s).l,Fq i (nV c.vars) (nT c.vars) F.flags.length=true:=by
 obtain⟨x,hx⟩:=Option.isSome_iff_exists.1 h
 have e:pU F c v s=⟨true,x.ps.length,(Et (Gh F c x)).1,Gh F c x⟩:=by rw[OD hv,hx]
 obtain⟨v',hv',hxm⟩:=kM hG hc hx
 rw[e]
 exact aDr hG hc hv' hxm
theorem he2:QR[2]?=some ⟨28,8,0,0⟩:=rfl
theorem YR{l:List Ef}{e:EfV}(h:l.map Ef.val=[e]):∃e0,l=[e0]∧e0.k=e.k:=by
 cases l with
 |nil=>simp at h
 | cons e0 l=>cases l with
   |nil=>simp at h;exact⟨e0,rfl,by rw[←h];rfl⟩
   |cons e1 l=>simp at h
theorem UA:Nl (Cl.sm (⟨none,0,[],0,none,0,[],0,none,0,[]⟩:Cl) exC) 1048576 (d0G [5] ([]:List (List (Int×Int))) [])=⟨[105],[],[],[Ph],200,[],1,0,0,true⟩:=by decide+kernel
theorem OG(A Av:OA)(q:Nat):Dz 12 [.agg #[iv 0,iv 2,vs A exC q], .agg #[vs Av ([5]:List Int) 1,nz,nz], .agg #[nz,iv 0,nz,iv 0,nz]] [ros Ins.cells A exC,ros encI Av ([5]:List Int),ros Tb.cells none ([]:List Tb),De Be (([]:List Tb).map Tb.ar),ros Be none ([]:List (Int×Int)),ros encI none ([]:List Int),ros Qv none ([]:List Bool),ros encI none ([]:List Int),Kn] (fun v Γ'=>∃d':Dm,v= .tuple #[.agg #[vs d'.Av d'.vars d'.qv,vs d'.At d'.tabs d'.qt,vs d'.dk.A d'.dk.l d'.dk.q,vs d'.Ae d'.effs d'.qe,iv d'.cost],iv 0]∧Γ'=[rows encI 2 1 d'.Av d'.qv d'.vars,rows Ef.cells 86 8 d'.Ae d'.qe d'.effs]∧d'.val=Nl (Cl.sm (⟨none,0,[],0,none,0,[],0,none,0,[]⟩:Cl) exC) 1048576 (d0G [5] ([]:List (List (Int×Int))) [])):=
 dI (vG 0 2 A q exC (⟨Av,1,[5],none,0,[],⟨none,0,[]⟩⟩:Sx) (⟨none,0,[],0,none,0,[],0,none,0,[]⟩:Cl) EJ (by decide) rfl EK (show 1≤1000000∧0≤1000000 by decide) (aEw _) ⟨Int.le_refl _,by decide⟩ (fun y hy=>by cases hy) ⟨List.Pairwise.nil,aEw _⟩ (fun y hy=>by cases hy) (aEu _)) fun v Γ' h=>by
  obtain⟨d',h1,rfl,hv,_⟩:=h
  exact⟨_,_,⟨d',h1,rfl,hv⟩,List.Perm.cons _ (aEl (l₁:=[_,_,_]) (l₂:=[_]))⟩
theorem vH:
    Dz 10 [] [Kn] (fun v _=>v= .bool true):=by
 refine Am func10 ntmps10 fun w0=>?_
 refine Jz 7 ?_
 refine Jr (.bd [.int .u8 29,iv 0,iv 0,iv 0]) ?_
 refine Jr (.bd [.int .u8 1,iv 0,iv 0,iv 1]) ?_
 refine Jr (.bd [.int .u8 28,iv 8,iv 0,iv 0]) ?_
 refine Jr (.bd [.int .u8 29,iv 0,iv 0,iv 0]) ?_
 refine Jr (.bd [.int .u8 2,iv 0,iv 0,iv 0]) ?_
 refine Jr (.bd [.int .u8 1,iv 0,iv 0,iv 1]) ?_
 refine Jr (.bd [.int .u8 14,iv 0,iv 0,iv 0]) ?_
 refine Jr (.bd [.int .u8 24,iv 0,iv 0,iv 0]) ?_
 refine Jr (.bd [.int .u8 27,iv 0,iv 0,iv 0]) ?_
 refine Eg [.int .u8 29,iv 0,iv 0,iv 0, .int .u8 1,iv 0,iv 0,iv 1, .int .u8 28,iv 8,iv 0,iv 0, .int .u8 29,iv 0,iv 0,iv 0, .int .u8 2,iv 0,iv 0,iv 0, .int .u8 1,iv 0,iv 0,iv 1, .int .u8 14,iv 0,iv 0,iv 0, .int .u8 24,iv 0,iv 0,iv 0, .int .u8 27,iv 0,iv 0,iv 0] fun b13=>?_
 refine Jas [rows Ins.cells 116 4 (some ⟨b13,0,none⟩) 9 QR,Kn] rfl (Jr (.bd [iv 0,iv 2, .slice (some ⟨b13,0,none⟩) 9 9]) ?_)
 refine Jal fun b1=>?_
 refine Jz 7 ?_
 refine Jr (Ga (l:=QR) (i:=1) (j:=2) rfl rfl rfl s41 rfl he2) ?_
 refine Jz 1 ?_
 refine To.u (Up.store (i:=1) rfl rfl rfl c3 rfl rfl (bB (size:=4) (n:=9) (off:=9) (xs:=QR.flatMap Ins.cells) (ds:=exC.flatMap Ins.cells) (by decide) (by simp) rfl)) ?_
 refine Jz 3 ?_
 refine Jas [box b1 [iv 0,iv 2, .slice (some ⟨b13,0,none⟩) 9 9] 43,rows Ins.cells 116 4 (some ⟨b13,0,none⟩) 9 exC,Kn] rfl (Mg (c:=ros Tb.cells none ([]:List Tb)) rfl rfl (fun w=> .inl rfl) (dC (enc:=Be) (Mg (c:=ros Be none ([]:List (Int×Int))) rfl rfl (fun w=> .inl rfl) (Mg (c:=ros encI none ([]:List Int)) rfl rfl (fun w=> .inl rfl) (Mg (c:=ros Qv none ([]:List Bool)) rfl rfl (fun w=> .inl rfl) (Jz 2 ?_))))))
 refine Eg [iv 5] fun b21=>?_
 refine Jr (.bd [.slice (some ⟨b21,0,none⟩) 1 1,nz,nz]) ?_
 refine Jr (.bd [nz,iv 0,nz,iv 0,nz]) ?_
 refine Jqf (OG (some ⟨b13,0,none⟩) (some ⟨b21,0,none⟩) 9) rfl (ocs (Ht 7 rfl) (ocs (Ht 0 rfl) (ocs (oca 5 rfl) (ocs (oca 4 rfl) (ocs (oca 3 rfl) (ocs (oca 2 rfl) (ocs (oca 1 rfl) (ocs (oca 2 rfl) (ocs (oca 8 rfl) (ocn _)))))))))) ?_
 rintro _ _ ⟨d',rfl,rfl,hv⟩
 refine⟨rfl,?_⟩
 refine Jz 3 ?_
 refine Jal fun b2=>?_
 refine Jz 5 ?_
 rw[UA]at hv
 have hr1:(⟨[105],[],[],[Ph],200,[],1,0,0,true⟩:Dv).vars=[105]:=rfl
 have hr2:(⟨[105],[],[],[Ph],200,[],1,0,0,true⟩:Dv).cost=200:=rfl
 have hr3:(⟨[105],[],[],[Ph],200,[],1,0,0,true⟩:Dv).effs=[Ph]:=rfl
 have hvars:d'.vars=[105]:=by have:=congrArg Dv.vars hv;simpa[Dm.val]using this.trans hr1
 have hcost:d'.cost=200:=by have:=congrArg Dv.cost hv;simpa[Dm.val]using this.trans hr2
 obtain⟨e0,hef,hk⟩:=YR (by have:=congrArg Dv.effs hv;exact this.trans hr3)
 have hk:e0.k=5:=hk
 rw[hvars,hcost,hef]
 refine Jz 19 ?_
 refine Jr (Ga (i:=1) (j:=0) rfl rfl rfl s28 rfl (show[(105:Int)][0]?=some 105 from rfl)) ?_
 refine Jr (Ck (i:=1) rfl rfl c2 rfl (Dc (rwg Cy (show[(105:Int)][0]?=some 105 from rfl)) rfl)) ?_
 refine Jz 11 ?_
 refine Jr (Ga (i:=2) (j:=0) rfl rfl rfl s68 rfl (show[e0][0]?=some e0 from rfl)) ?_
 refine Jz 1 ?_
 refine Jr (Ck (i:=2) rfl rfl c84 rfl (gvt (f:=0) (rwg Zq (show[e0][0]?=some e0 from rfl)) rfl)) ?_
 refine Jz 6 ?_
 refine Je1 results10 ?_
 exact congrArg Value.bool (aEk hk)
end Go.Proofs.YtlihklladkagpaaGreatDoor

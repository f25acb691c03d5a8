/- Own text. -/
import Derived.Test.YtlihklladkagpaaGreatDoorXg
import Derived.Test.YtlihklladkagpaaGreatDoorGa
set_option linter.unusedVariables false
set_option linter.unusedSimpArgs false
set_option maxHeartbeats 2000000
set_option maxRecDepth 100000
namespace Go.Proofs.YtlihklladkagpaaGreatDoor
open Go.Proofs.Tryz
open Go.RowKit Go.Flow Go.Mem Go.Sep
theorem yQ(A:OA)(q:Nat)(l:List Int)(hl:l.length≤1000000):
    Dz 33 [vs A l q] [ros aLz A l] (fun v Γ'=>∃B p,v=vs B l p∧Γ'=[rows aLz 3 1 B p l]):=by
 refine Am func33 ntmps33 fun w0=>?_
 refine Jz 9 ?_
 refine Jr (Cr (v':= .bool A.isNone) rfl (Tp (A:=A) rfl underlying62 rfl rfl)) ?_
 refine Jn (Jt (Ed rfl (fun c4=>?_) (fun c4=>?_)))
 refine Js (Lt (p:=l=[]) (fun w hw=>bL Cy (by decide) c4 0 rfl hw) (fun hl0=>?_))
 subst hl0
 refine Cz (aLz) 3 1 (Jz 6 ?_)
 refine Ce [0] rfl (Je1 results33 ?_)
 exact⟨_,_,rfl,rfl⟩
 refine Jz 4 ?_
 refine Jmk rfl rfl rfl (Hg (enc:=aLz) rfl s62) ?_
 rintro _ _ ⟨A5,rfl,rfl⟩
 refine Jm ?_
 refine Jge rfl rfl rfl (Hf Cy (i:=0) (m:=l) rfl s62 rfl rfl rfl (Ya (i:=1) rfl) om om) ?_
 rintro _ _ ⟨A7,q7,rfl,rfl⟩
 refine Jz 4 ?_
 refine Ce [0] rfl (Je1 results33 ?_)
 exact⟨_,_,rfl,rfl⟩
theorem yR(A:OA)(q:Nat)(l:List Tb)(hl:l.length≤1000000):
    Dz 36 [vs A l q] [ros Tb.cells A l] (fun v Γ'=>∃B p,v=vs B l p∧Γ'=[rows Tb.cells 54 1 B p l]):=by
 refine Am func36 ntmps36 fun w0=>?_
 refine Jz 9 ?_
 refine Jr (Cr (v':= .bool A.isNone) rfl (Tp (A:=A) rfl underlying51 rfl rfl)) ?_
 refine Jn (Jt (Ed rfl (fun c4=>?_) (fun c4=>?_)))
 refine Js (Lt (p:=l=[]) (fun w hw=>bL Nf (by decide) c4 0 rfl hw) (fun hl0=>?_))
 subst hl0
 refine Cz (Tb.cells) 54 1 (Jz 6 ?_)
 refine Ce [0] rfl (Je1 results36 ?_)
 exact⟨_,_,rfl,rfl⟩
 refine Jz 4 ?_
 refine Jmk rfl rfl rfl (Hg (enc:=Tb.cells) rfl s51) ?_
 rintro _ _ ⟨A5,rfl,rfl⟩
 refine Jm ?_
 refine Jge rfl rfl rfl (Hf Nf (i:=0) (m:=l) rfl s51 rfl rfl rfl (Ya (i:=1) rfl) om om) ?_
 rintro _ _ ⟨A7,q7,rfl,rfl⟩
 refine Jz 4 ?_
 refine Ce [0] rfl (Je1 results36 ?_)
 exact⟨_,_,rfl,rfl⟩
structure Cl where
 Aa:OA
 qa:Nat
 args:List Int
 now:Int
 Ag:OA
 qg:Nat
 flags:List Bool
 dsk:Int
 Af:OA
 qf:Nat
 fail:List Int
def Cl.cells(c:Cl):List Value:=[vs c.Aa c.args c.qa,iv c.now,vs c.Ag c.flags c.qg,iv c.dsk,vs c.Af c.fail c.qf]
def Cl.sm(c:Cl)(l:List Ins):Sm:=⟨none,0,l,none,0,c.args,c.now,none,0,c.flags,c.dsk,none,0,Ev Jb c.fail⟩
def VU(s t:Sm):Prop:=s.code=t.code∧s.args=t.args∧s.now=t.now∧s.flags=t.flags∧s.dsk=t.dsk∧s.fail=t.fail
theorem yS{s t:Sm}(h:VU s t)(x:Ins)(d:Dv):Bj s x d=Bj t x d:=by
 obtain⟨h1,h2,h3,h4,h5,h6⟩:=h
 unfold Bj Ng
 rw[h1,h2,h3,h4,h5,h6]
theorem nR{s t:Sm}(h:VU s t):∀(f:Nat) (d:Dv),Nl s f d=Nl t f d
 |0,d=>by rw[Nl,Nl,h.1]
 | f+1,d=>by
   rw[Nl,Nl,h.1]
   simp only[yS h,nR h f]
theorem vG(pr st:Int)(A:OA)(q:Nat)(l:List Ins)(a:Sx)(c:Cl)(hv0:Kg pr st l=0)(hc:l.length≤4000)(hpr:(c.args.length:Int)=pr)(href:∀x∈l,Fq x a.vars.length a.tabs.length c.flags.length=true)(hsm:a.vars.length≤1000000∧a.tabs.length≤1000000)(hfl:c.fail.length≤12)(hdsk:0≤c.dsk∧c.dsk≤1000000000)(hgt:∀y∈a.tabs,Good y.l)(hgd:Good a.dk.l)(hcaps:∀y∈a.tabs,y.l.length≤y.q)(hcapd:a.dk.l.length≤a.dk.q):
    Dz 12 [.agg #[iv pr,iv st,vs A l q], .agg #[vs a.Av a.vars a.qv,vs a.At a.tabs a.qt,vs a.dk.A a.dk.l a.dk.q], .agg #[vs c.Aa c.args c.qa,iv c.now,vs c.Ag c.flags c.qg,iv c.dsk,vs c.Af c.fail c.qf]] [ros Ins.cells A l,ros aLz a.Av a.vars,ros Tb.cells a.At a.tabs,De Be (a.tabs.map Tb.ar),ros Be a.dk.A a.dk.l,ros aLz c.Aa c.args,ros Qv c.Ag c.flags,ros aLz c.Af c.fail,Kn] (fun v Γ'=>∃d':Dm,v= .tuple #[.agg #[vs d'.Av d'.vars d'.qv,vs d'.At d'.tabs d'.qt,vs d'.dk.A d'.dk.l d'.dk.q,vs d'.Ae d'.effs d'.qe,iv d'.cost],iv 0]∧Γ'=[rows aLz 2 1 d'.Av d'.qv d'.vars,rows Tb.cells 54 1 d'.At d'.qt d'.tabs,De Be (d'.tabs.map Tb.ar),ros Be d'.dk.A d'.dk.l,rows Ef.cells 86 8 d'.Ae d'.qe d'.effs,De aLz (d'.effs.map Ef.ar)]∧d'.val=Nl (c.sm l) 1048576 (d0G a.vars (a.tabs.map Tb.l) a.dk.l)∧Ry d'):=by
 refine Am func12 ntmps12 fun w0=>?_
 refine Js (To.g (Jbo fun b3=>?_))
 refine Jbo fun b4=>?_
 refine Jbo fun b5=>?_
 refine Jal fun b6=>?_
 refine Jz 7 ?_
 refine Jvf ((EG pr st A q l).mono (R':=fun v _=>v=iv 0) (fun v _ h=>by rw[h,hv0])) rfl (ocs (oca 4 rfl) (ocs (oca 12 rfl) (ocn _))) ?_
 refine Jz 23 ?_
 refine Jcp rfl ?_ ?_<;>intro k23
 exact absurd hpr k23
 refine Jz 12 ?_
 refine Le (Jj (Ic (Ie (fun mz ρ Γ=>∃(i:Nat),ρ=[(3,pv b3),(4,pv b4),(5,pv b5),(6,pv b6),(26,vs A l q),(27,nv l.length),(28,nv i)]∧Γ=[box b3 [iv pr,iv st,vs A l q] 43,box b4 [vs a.Av a.vars a.qv,vs a.At a.tabs a.qt,vs a.dk.A a.dk.l a.dk.q] 56,box b5 [vs c.Aa c.args c.qa,iv c.now,vs c.Ag c.flags c.qg,iv c.dsk,vs c.Af c.fail c.qf] 64,box b6 [nz,nz,nz,nz,iv 0] 70,ros Ins.cells A l,ros aLz a.Av a.vars,ros Tb.cells a.At a.tabs,De Be (a.tabs.map Tb.ar),ros Be a.dk.A a.dk.l,ros aLz c.Aa c.args,ros Qv c.Ag c.flags,ros aLz c.Af c.fail,Kn]∧mz=l.length-i∧(i≤l.length)) (l.length-0) ⟨⟨0,rfl,rfl,rfl,(aEw _)⟩,sb⟩ ?_)))
 rintro mz _ _ ⟨i,rfl,rfl,rfl,hi⟩
 refine Jz 6 ?_
 refine Jcp rfl ?_ ?_<;>intro k29
 obtain⟨x,hx⟩:=exg l i om
 refine Jz 8 ?_
 refine Jal fun b10=>?_
 refine Jz 8 ?_
 refine Jvf ((EH x a.Av a.At a.dk.A c.Aa c.Ag c.Af a.vars.length a.qv a.tabs.length a.qt a.dk.l.length a.dk.q c.args.length c.qa c.flags.length c.qg c.fail.length c.qf c.now c.dsk).mono (R':=fun v _=>v= .bool true) (fun v _ h=>by rw[h,href x (mog hx)])) rfl (ocn _) ?_
 refine Jz 12 ?_
 refine Du (Vb (l.length-(i+1)) om ⟨⟨i+1,rfl,rfl,rfl,om⟩,sb⟩)
 refine Jz 10 ?_
 refine Jr (.bd [nz,nz,nz,nz,iv 0,vs A l q,vs c.Aa c.args c.qa,iv c.now,vs c.Ag c.flags c.qg,iv c.dsk,vs c.Af c.fail c.qf,nz,iv 0,iv 0,iv 0, .bool false]) ?_
 refine Jbo fun b43=>?_
 refine Jz 8 ?_
 refine Jqf (yQ c.Af c.qf c.fail om) rfl (ocs (oca 12 rfl) (ocn _)) ?_
 rintro _ _ ⟨Bf,pf,rfl,rfl⟩
 refine⟨rfl,?_⟩
 refine Jz 13 ?_
 refine Jcf [0] (KR Bf pf c.fail om) ?_
 rintro _ _ ⟨rfl,rfl⟩
 refine Jz 3 ?_
 refine Jas [rows aLz 3 1 Bf pf (Ev Jb c.fail),box b43 [nz,nz,nz,nz,iv 0,vs A l q,vs c.Aa c.args c.qa,iv c.now,vs c.Ag c.flags c.qg,iv c.dsk,vs Bf (Ev Jb c.fail) pf,nz,iv 0,iv 0,iv 0, .bool false] 123,box b3 [iv pr,iv st,vs A l q] 43,box b4 [vs a.Av a.vars a.qv,vs a.At a.tabs a.qt,vs a.dk.A a.dk.l a.dk.q] 56,box b5 [vs c.Aa c.args c.qa,iv c.now,vs c.Ag c.flags c.qg,iv c.dsk,vs c.Af c.fail c.qf] 64,box b6 [nz,nz,nz,nz,iv 0] 70,ros Ins.cells A l,ros aLz a.Av a.vars,ros Tb.cells a.At a.tabs,De Be (a.tabs.map Tb.ar),ros Be a.dk.A a.dk.l,ros aLz c.Aa c.args,ros Qv c.Ag c.flags,ros aLz c.Af c.fail,Kn] (by(try unfold vs);rw[Mt]<;>rfl) (Cq (Pp [box b4 [vs a.Av a.vars a.qv,vs a.At a.tabs a.qt,vs a.dk.A a.dk.l a.dk.q] 56] [⟨0,[],0⟩,⟨1,[],0⟩,⟨2,[],0⟩,⟨4,[],0⟩,⟨5,[],0⟩,⟨7,[],0⟩,⟨8,[],0⟩,⟨3,[],4⟩,⟨6,[3],4⟩,⟨9,[3,6],0⟩,⟨10,[3,6],0⟩,⟨11,[3,6],0⟩,⟨12,[3,6],0⟩,⟨13,[3,6],5⟩] mixed.h (by kernel_rfl) (ocs (oca 3 rfl) (ocn _)) (Jz 6 ?_)))
 refine Fw.f rfl (Ij (i:=0) (us:=[vs a.dk.A a.dk.l a.dk.q]) rfl rfl r54 rfl (Fh (n:=1) rfl) rfl) ?_
 refine Gj rfl rfl rfl rfl rfl .fc (iL a.Av a.qv a.vars hsm.1) rfl (ocs (oca 7 rfl) (ocn _)) ?_
 rintro _ _ ⟨Bv,pv,rfl,rfl⟩
 refine⟨rfl,?_⟩
 refine Gj rfl rfl rfl rfl rfl .fc (yR a.At a.qt a.tabs hsm.2) rfl (ocs (oca 9 rfl) (ocn _)) ?_
 rintro _ _ ⟨Bt,pt,rfl,rfl⟩
 refine⟨rfl,?_⟩
 refine Fw.f rfl (.bd [vs Bv a.vars pv,vs Bt a.tabs pt,vs a.dk.A a.dk.l a.dk.q]) ?_
 refine Jz 3 ?_
 refine Fw.up rfl rfl rfl (Bl (i:=3) rfl rfl rfl r56 rfl rfl rfl (Rf (ds:=[vs Bv a.vars pv,vs Bt a.tabs pt,vs a.dk.A a.dk.l a.dk.q,nz,iv 0,vs A l q,vs c.Aa c.args c.qa,iv c.now,vs c.Ag c.flags c.qg,iv c.dsk,vs Bf (Ev Jb c.fail) pf,nz,iv 0,iv 0,iv 0, .bool false]) rfl rfl)) (ocs (oca 5 rfl) (ocn _)) ?_
 refine Jz 3 ?_
 refine Cz (aLz) 2 1 (Cz (Ef.cells) 86 8 (dC (enc:=aLz) ?_))
 obtain⟨I,hR,hI⟩:=pR (s:=(⟨A,q,l,c.Aa,c.qa,c.args,c.now,c.Ag,c.qg,c.flags,c.dsk,Bf,pf,Ev Jb c.fail⟩:Sm)) (V:=a.vars) (tb:=a.tabs.map Tb.l) (dk:=a.dk.l) hv0 (fun x hx=>by rw[aEg];exact href x hx) hpr (Yi _) (by show(Ev Jb c.fail).length≤1000000;rw[Mt];omega) hdsk (fun t ht=>by obtain⟨y,hy,rfl⟩:=aEv.1 ht;exact hgt y hy) hgd
 refine Jz 2 ?_
 refine Jcf [6,4,3,11,11,1,0,0,8,8,0,4] (XB b43 (⟨A,q,l,c.Aa,c.qa,c.args,c.now,c.Ag,c.qg,c.flags,c.dsk,Bf,pf,Ev Jb c.fail⟩:Sm) I hR hc (⟨Bv,pv,a.vars,Bt,pt,a.tabs,a.dk,none,0,[],0,none,0,[],0,0,0,false⟩:Dm) hI ⟨hcaps,hcapd⟩) ?_
 rintro _ _ ⟨rfl,d',rfl,hv,hcap⟩
 refine Jz 7 ?_
 refine Jr (Ij (i:=0) (us:=[vs d'.Av d'.vars d'.qv,vs d'.At d'.tabs d'.qt,vs d'.dk.A d'.dk.l d'.dk.q,vs d'.Ae d'.effs d'.qe,iv d'.cost]) rfl rfl r70 rfl (Fh (n:=5) rfl) rfl) ?_
 refine Jz 5 ?_
 refine Lp [1,1,1,1,1,1] rfl (.inl rfl) results12 rfl (i:=11) rfl r70 rfl rfl ?_
 have e0:(⟨Bv,pv,a.vars,Bt,pt,a.tabs,a.dk,none,0,[],0,none,0,[],0,0,0,false⟩:Dm).val=d0G a.vars (a.tabs.map Tb.l) a.dk.l:=rfl
 rw[e0,nR (s:=(⟨A,q,l,c.Aa,c.qa,c.args,c.now,c.Ag,c.qg,c.flags,c.dsk,Bf,pf,Ev Jb c.fail⟩:Sm)) (t:=c.sm l) ⟨rfl,rfl,rfl,rfl,rfl,rfl⟩ 1048576]at hv
 exact⟨d',rfl,rfl,hv,hcap⟩
open Go.RowKit Go.Flow Go.Mem Go.Sep
def Dp(e:Ef):List Value:=[iv e.k,iv e.to,iv e.h,iv e.d,iv e.key,iv e.v, .bool e.f,vs e.A e.args e.q]
instance kW:Enc Dp 8:=⟨fun _=>rfl,fun e u hu=>by
 simp only[Dp,aEi,aEs,or_false]at hu
 rcases hu with rfl|rfl|rfl|rfl|rfl|rfl|rfl|rfl<;>rfl⟩
theorem Qj(b:Bool):
    Dz 119 [.bool b] [] (fun v _=>v=iv (tru b)):=by
 refine Am func119 ntmps119 fun w0=>?_
 refine Jz 11 ?_
 refine Ed rfl ?_ ?_<;>intro c3
 refine Jz 7 ?_
 refine Je1 results119 ?_
 subst c3;rfl
 refine Jz 8 ?_
 refine Je1 results119 ?_
 subst c3;rfl
theorem UB(op a b:Int)(hop:11≤op∧op≤23):
    Dz 67 [iv op,iv a,iv b] [] (fun v _=>v=iv (Ha op a b)):=by
 refine Am func67 ntmps67 fun w0=>?_
 refine Jz 18 ?_
 refine Jcp rfl ?_ ?_<;>intro k8
 refine Jz 4 ?_
 refine Jr (zI rfl rfl rfl) ?_
 refine Jz 6 ?_
 refine Je1 results67 ?_
 ·first|(exfalso;omega)|(simp[Ha,Po,k8];done)|simp[Ha,show op=23 from by omega,k8]
 refine Jz 6 ?_
 refine Jcp rfl ?_ ?_<;>intro k13
 refine Jz 7 ?_
 refine Jcp rfl ?_ ?_<;>intro k16
 refine Jz 9 ?_
 refine Je1 results67 ?_
 ·first|(exfalso;omega)|(simp[Ha,Po,k8,k13,k16];done)|simp[Ha,show op=23 from by omega,k8,k13,k16]
 refine Jz 9 ?_
 refine Jcp rfl ?_ ?_<;>intro k18
 refine Jz 3 ?_
 refine Jr (eO rfl rfl) ?_
 refine Jz 7 ?_
 refine Je1 results67 ?_
 ·first|(exfalso;omega)|(simp[Ha,Po,k8,k13,k16,k18];done)|simp[Ha,show op=23 from by omega,k8,k13,k16,k18]
 refine Jz 6 ?_
 refine Jr (zJ rfl rfl rfl (by assumption)) ?_
 refine Jz 6 ?_
 refine Je1 results67 ?_
 ·first|(exfalso;omega)|(simp[Ha,Po,k8,k13,k16,k18];done)|simp[Ha,show op=23 from by omega,k8,k13,k16,k18]
 refine Jz 6 ?_
 refine Jcp rfl ?_ ?_<;>intro k24
 refine Jz 5 ?_
 refine JgP ?_ ?_<;>intro g28
 refine Jz 15 ?_
 refine Je1 results67 ?_
 ·first|(exfalso;omega)|(simp[Ha,Po,k8,k13,k24,g28];done)|simp[Ha,show op=23 from by omega,k8,k13,k24,g28]
 refine Jz 5 ?_
 refine Jcp rfl ?_ ?_<;>intro k31
 refine Jz 9 ?_
 refine Je1 results67 ?_
 ·first|(exfalso;omega)|(simp[Ha,Po,k8,k13,k24,g28,k31];done)|simp[Ha,show op=23 from by omega,k8,k13,k24,g28,k31]
 refine Jz 6 ?_
 refine Jr (oK rfl rfl rfl (by assumption)) ?_
 refine Jz 6 ?_
 refine Je1 results67 ?_
 ·first|(exfalso;omega)|(simp[Ha,Po,k8,k13,k24,g28,k31];done)|simp[Ha,show op=23 from by omega,k8,k13,k24,g28,k31]
 refine Jz 6 ?_
 refine Jcp rfl ?_ ?_<;>intro k35
 refine Jz 4 ?_
 refine Jr (zF rfl rfl rfl) ?_
 refine Jz 6 ?_
 refine Je1 results67 ?_
 ·first|(exfalso;omega)|(simp[Ha,Po,k8,k13,k24,k35];done)|simp[Ha,show op=23 from by omega,k8,k13,k24,k35]
 refine Jz 6 ?_
 refine Jcp rfl ?_ ?_<;>intro k40
 refine Jz 4 ?_
 refine Jr (zG rfl rfl rfl) ?_
 refine Jz 6 ?_
 refine Je1 results67 ?_
 ·first|(exfalso;omega)|(simp[Ha,Po,k8,k13,k24,k35,k40];done)|simp[Ha,show op=23 from by omega,k8,k13,k24,k35,k40]
 refine Jz 6 ?_
 refine Jcp rfl ?_ ?_<;>intro k45
 refine Jz 5 ?_
 refine Jvf (Qj (decide (a=b))) rfl (ocn _) ?_
 refine Jz 6 ?_
 refine Je1 results67 ?_
 ·first|(exfalso;omega)|(simp[Ha,Po,k8,k13,k24,k35,k40,k45];done)|simp[Ha,show op=23 from by omega,k8,k13,k24,k35,k40,k45]
 refine Jz 6 ?_
 refine Jcp rfl ?_ ?_<;>intro k51
 refine Jz 5 ?_
 refine Jvf (Qj (decide (a≠b))) rfl (ocn _) ?_
 refine Jz 6 ?_
 refine Je1 results67 ?_
 ·first|(exfalso;omega)|(simp[Ha,Po,k8,k13,k24,k35,k40,k45,k51];done)|simp[Ha,show op=23 from by omega,k8,k13,k24,k35,k40,k45,k51]
 refine Jz 6 ?_
 refine Jcp rfl ?_ ?_<;>intro k57
 refine Jz 5 ?_
 refine Jvf (Qj (decide (a<b))) rfl (ocn _) ?_
 refine Jz 6 ?_
 refine Je1 results67 ?_
 ·first|(exfalso;omega)|(simp[Ha,Po,k8,k13,k24,k35,k40,k45,k51,k57];done)|simp[Ha,show op=23 from by omega,k8,k13,k24,k35,k40,k45,k51,k57]
 refine Jz 6 ?_
 refine Jcp rfl ?_ ?_<;>intro k63
 refine Jz 5 ?_
 refine Jvf (Qj (decide (a≤b))) rfl (ocn _) ?_
 refine Jz 6 ?_
 refine Je1 results67 ?_
 ·first|(exfalso;omega)|(simp[Ha,Po,k8,k13,k24,k35,k40,k45,k51,k57,k63];done)|simp[Ha,show op=23 from by omega,k8,k13,k24,k35,k40,k45,k51,k57,k63]
 refine Jz 6 ?_
 refine Jcp rfl ?_ ?_<;>intro k69
 refine Jz 5 ?_
 refine Jvf (Qj (decide (b<a))) rfl (ocn _) ?_
 refine Jz 6 ?_
 refine Je1 results67 ?_
 ·first|(exfalso;omega)|(simp[Ha,Po,k8,k13,k24,k35,k40,k45,k51,k57,k63,k69];done)|simp[Ha,show op=23 from by omega,k8,k13,k24,k35,k40,k45,k51,k57,k63,k69]
 refine Jz 6 ?_
 refine Jcp rfl ?_ ?_<;>intro k75
 refine Jz 5 ?_
 refine Jvf (Qj (decide (b≤a))) rfl (ocn _) ?_
 refine Jz 6 ?_
 refine Je1 results67 ?_
 ·first|(exfalso;omega)|(simp[Ha,Po,k8,k13,k24,k35,k40,k45,k51,k57,k63,k69,k75];done)|simp[Ha,show op=23 from by omega,k8,k13,k24,k35,k40,k45,k51,k57,k63,k69,k75]
 refine Jz 6 ?_
 refine Jcp rfl ?_ ?_<;>intro k81
 refine Jz 4 ?_
 refine JgP ?_ ?_<;>intro g85
 refine Jz 3 ?_
 refine Jvf (Qj (decide (b≠0))) rfl (ocn _) ?_
 refine Jz 6 ?_
 refine Je1 results67 ?_
 ·first|(exfalso;omega)|(simp[Ha,Po,k8,k13,k24,k35,k40,k45,k51,k57,k63,k69,k75,k81,g85];done)|simp[Ha,show op=23 from by omega,k8,k13,k24,k35,k40,k45,k51,k57,k63,k69,k75,k81,g85]
 refine Jz 3 ?_
 refine Jvf (Qj false) rfl (ocn _) ?_
 refine Jz 6 ?_
 refine Je1 results67 ?_
 ·first|(exfalso;omega)|(simp[Ha,Po,k8,k13,k24,k35,k40,k45,k51,k57,k63,k69,k75,k81,g85];done)|simp[Ha,show op=23 from by omega,k8,k13,k24,k35,k40,k45,k51,k57,k63,k69,k75,k81,g85]
 refine Jz 7 ?_
 refine JgP ?_ ?_<;>intro g92
 refine Jz 3 ?_
 refine Jvf (Qj true) rfl (ocn _) ?_
 refine Jz 4 ?_
 refine Je1 results67 ?_
 ·first|(exfalso;omega)|(simp[Ha,Po,k8,k13,k24,k35,k40,k45,k51,k57,k63,k69,k75,k81,g92];done)|simp[Ha,show op=23 from by omega,k8,k13,k24,k35,k40,k45,k51,k57,k63,k69,k75,k81,g92]
 refine Jz 3 ?_
 refine Jvf (Qj (decide (b≠0))) rfl (ocn _) ?_
 refine Jz 4 ?_
 refine Je1 results67 ?_
 ·first|(exfalso;omega)|(simp[Ha,Po,k8,k13,k24,k35,k40,k45,k51,k57,k63,k69,k75,k81,g92];done)|simp[Ha,show op=23 from by omega,k8,k13,k24,k35,k40,k45,k51,k57,k63,k69,k75,k81,g92]
theorem CO(l m:List (Int×Int))(k:Int):Fp (l++m) k=(Fp l k).or (Fp m k):=by
 unfold Fp
 rw[List.find?_append]
 cases l.find? (fun e=>decide (e.1=k))<;>rfl
theorem OH{l:List (Int×Int)}{i:Nat}{x:Int×Int}{k:Int}(hx:l[i]?=some x):Fp (l.take (i+1)) k=(Fp (l.take i) k).or (if x.1=k then some x.2 else none):=by
 rw[Cf hx,CO,Qr];rfl
theorem GY{l:List (Int×Int)}{i:Nat}{x:Int×Int}{k:Int}(hx:l[i]?=some x)(h:Fp (l.take i) k=none)(hk:x.1=k):Fp l k=some x.2:=by
 conv=>lhs;rw[←aFs i l]
 rw[CO,h,dog hx,Qr,aEh hk];rfl
theorem fP(A:OA)(ca:Nat)(l:List (Int×Int))(k:Int)(hl:l.length≤1000000):
    Dz 120 [vs A l ca,iv k] [ros Be A l] (fun v _=>v= .tuple #[iv ((Fp l k).getD 0), .bool (Fp l k).isSome]):=by
 refine Am func120 ntmps120 fun w0=>?_
 refine Jz 15 ?_
 refine Ce [0] rfl (Ie (fun mz ρ Γ=>∃(i:Nat),ρ=[(1,iv k),(8,vs A l ca),(9,nv l.length),(10,nv i)]∧Γ=[ros Be A l]∧mz=l.length-i∧(i≤l.length)∧(Fp (l.take i) k=none)) (l.length-0) ⟨⟨0,rfl,rfl,rfl,(aEw _),rfl⟩,sb⟩ ?_)
 rintro mz _ _ ⟨i,rfl,rfl,rfl,hi,hI⟩
 refine Jz 6 ?_
 refine Jcp rfl ?_ ?_<;>intro c11
 obtain⟨x,hx⟩:=exg l i om
 refine Jz 8 ?_
 refine Jal fun b7=>?_
 refine Jz 5 ?_
 refine Jr (Ir (j:=0) rfl (Sn.of (size:=1) underlying92 (by kernel_rfl)) rfl rfl (by decide)) ?_
 refine Jz 5 ?_
 refine Jcp rfl ?_ ?_<;>intro c17
 refine Js (To.g (Jr (Ir (j:=1) rfl (Sn.of (size:=1) underlying92 (by kernel_rfl)) rfl rfl (by decide)) ?_))
 refine Jz 11 ?_
 refine Gc (.inl rfl) results120 rfl rfl ?_
 show Value.tuple #[_,_]=Value.tuple #[_,_]
 rw[GY hx hI c17];rfl
 refine Jz 8 ?_
 refine Ce [1] rfl (Vb (l.length-(i+1)) om ⟨⟨i+1,rfl,rfl,rfl,om,(by rw[OH hx,hI,aEa c17];rfl)⟩,sb⟩)
 refine Jz 12 ?_
 refine Gc (.inl rfl) results120 rfl rfl ?_
 show Value.tuple #[_,_]=Value.tuple #[_,_]
 rw[show l=l.take i from(aEm om).symm,hI];rfl
theorem vI(A:OA)(ca:Nat)(l:List (Int×Int))(k v:Int)(hg:Good l):
    Dz 68 [vs A l ca,iv k,iv v] [ros Be A l] (fun r Γ'=>∃B q,r= .slice B (Oq l k v).length q∧Γ'=[ros Be B (Oq l k v)]):=by
 have hl:=hg.len
 refine Am func68 ntmps68 fun w0=>?_
 refine Jz 10 ?_
 refine Jvf (fP A ca l k om) rfl (ocs (oca 0 rfl) (ocn _)) ?_
 refine Jz 11 ?_
 refine JgB ?_ ?_<;>intro g17
 refine Jz 6 ?_
 refine Jcp rfl ?_ ?_<;>intro c21
 refine Jz 8 ?_
 refine Ce [0] rfl (Je1 results68 ?_)
 have hfin:Oq l k v=l:=by rw[←KN hg k v,aEh ⟨by simpa using g17,by omega⟩]
 exact⟨A,ca,by rw[hfin],by rw[hfin]⟩
 refine Jz 7 ?_
 refine Jqf (pI A ca l k v om) rfl (ocs (oca 0 rfl) (ocn _)) ?_
 rintro _ _ ⟨B,q,rfl,rfl⟩
 refine⟨rfl,?_⟩
 refine Jz 4 ?_
 refine Ce [0,0] rfl (Cq (Ce [0] rfl (Je1 results68 ?_)))
 have hfin:Oq l k v=Oi l k v:=by rw[←KN hg k v,aEa (by rintro⟨h,h2⟩;omega)]
 exact⟨B,q,by rw[hfin],by rw[hfin]⟩
 refine Jz 14 ?_
 refine Jqf (pI A ca l k v om) rfl (ocs (oca 0 rfl) (ocn _)) ?_
 rintro _ _ ⟨B,q,rfl,rfl⟩
 refine⟨rfl,?_⟩
 refine Jz 4 ?_
 refine Ce [0,0] rfl (Cq (Ce [0] rfl (Je1 results68 ?_)))
 have hfin:Oq l k v=Oi l k v:=by rw[←KN hg k v,aEa (by rintro⟨h,h2⟩;simp at g17;rw[g17]at h;exact h rfl)]
 exact⟨B,q,by rw[hfin],by rw[hfin]⟩
def OI(d:Dv):Dv:={Zu d with fault:=true}
def eB(e:EfV)(d:Dv):Dv:=if 8≤d.sends then OI d else{d with sends:=d.sends+1,effs:=d.effs++[e]}
def YS(d:Dv):Dv:=if 200≤d.cost then OI d else{d with cost:=d.cost+1}
def rC(s:Sm)(k v:Int)(d:Dv):Dv:={d with disks:=d.disks+1,disk:=if decide (s.dsk+d.disks∈s.fail)=true then d.disk else Oq d.disk k v,effs:=d.effs++[⟨3,0,0,0,k,v,decide (s.dsk+d.disks∈s.fail),[]⟩]}
def kX(s:Sm)(j:Nat)(k:Int)(d:Dv):Dv:=if decide (s.dsk+d.disks∈s.fail)=true then{d with disks:=d.disks+1,effs:=d.effs++[⟨4,0,0,0,k,0,true,[]⟩]}else{d with disks:=d.disks+1,vars:=d.vars.set j ((Fp d.disk k).getD 0),effs:=d.effs++[⟨4,0,0,0,k,(Fp d.disk k).getD 0,false,[]⟩]}
structure Okr(s:Sm)(d:Dv):Prop where
 tabs:∀t∈d.tabs,Good t
 disk:Good d.disk
 fail:s.fail.length≤1000000
 effs:d.effs.length≤2000000
 sends:0≤d.sends∧d.sends≤8
 disks:0≤d.disks∧d.disks≤2000000
 dsk:0≤s.dsk∧s.dsk≤1000000000
open Go.Sep
def rs(d:Dv):List Int×List (List (Int×Int))×List (Int×Int)×List EfV×Int:=(d.vars,d.tabs,d.disk,d.effs,d.cost)
def Jf(s:Sm)(x:Ins)(d:Dv)(a nx:Int)(e:Dv):Prop:=
 (((x.op:Nat):Int)=34∧e={d with fault:=true})∨
 (((x.op:Nat):Int)≠34∧(Bj s x {d with next:=a+1}).fault=true∧e.fault=true∧rs e=rs (Zu (Bj s x {d with next:=a+1})))∨
 (((x.op:Nat):Int)≠34∧(Bj s x {d with next:=a+1}).fault=false∧{e with next:=nx}=Bj s x {d with next:=a+1})
theorem Jf.good{s:Sm}{x:Ins}{d e:Dv}{a nx:Int}(h34:((x.op:Nat):Int)≠34)(hf:d.fault=false)(h:{e with next:=nx}=Bj s x {d with next:=a+1})(he:e.fault=d.fault):Jf s x d a nx e:=by
 refine .inr (.inr ⟨h34,?_,h⟩)
 rw[←h];exact he.trans hf
theorem GZ{s:Sm}{x:Ins}{d:Dv}(h:11≤((x.op:Nat):Int)∧((x.op:Nat):Int)≤23):Bj s x d={d with stack:=d.stack.dropLast.dropLast++[Ha x.op (d.stack.dropLast.getLastD 0) (d.stack.getLastD 0)]}:=by
 unfold Bj
 rw[aEa om,aEa om,aEa om,aEa om,aEa om,aEa om,aEa om,aEa om,aEa om,aEa om,aEa om,aEa om,aEa om,aEa om]
theorem OM{s:Sm}{x:Ins}{d:Dv}(h:((x.op:Nat):Int)=24):Bj s x d={d with stack:=d.stack.dropLast,vars:=d.vars.set x.a.toNat (d.stack.getLastD 0)}:=by
 unfold Bj
 rw[aEa om,aEa om,aEa om,aEa om,aEa om,aEa om,aEh h]
theorem OO{s:Sm}{x:Ins}{d:Dv}(h:((x.op:Nat):Int)=27):Bj s x d={d with next:=x.a}:=by
 unfold Bj
 rw[aEa om,aEa om,aEa om,aEa om,aEa om,aEa om,aEa om,aEh h]
theorem OP{s:Sm}{x:Ins}{d:Dv}(h:((x.op:Nat):Int)=28):Bj s x d={d with stack:=d.stack.dropLast,next:=if d.stack.getLastD 0=0 then x.a else d.next}:=by
 unfold Bj
 rw[aEa om,aEa om,aEa om,aEa om,aEa om,aEa om,aEa om,aEa om,aEh h]
theorem OQ{s:Sm}{x:Ins}{d:Dv}(h:((x.op:Nat):Int)=29):Bj s x d={d with fault:=decide (d.cost=200),cost:=min (d.cost+1) 200}:=by
 unfold Bj
 rw[aEa om,aEa om,aEa om,aEa om,aEa om,aEa om,aEa om,aEa om,aEa om,aEh h]
theorem CP{s:Sm}{x:Ins}{d:Dv}(h:((x.op:Nat):Int)=1):Bj s x d={d with stack:=d.stack++[x.n]}:=by
 unfold Bj
 rw[aEh h]
theorem CQ{s:Sm}{x:Ins}{d:Dv}(h:((x.op:Nat):Int)=2):Bj s x d={d with stack:=d.stack++[d.vars.getD x.a.toNat 0]}:=by
 unfold Bj
 rw[aEa om,aEh h]
theorem CR{s:Sm}{x:Ins}{d:Dv}(h:((x.op:Nat):Int)=3):Bj s x d={d with stack:=d.stack++[s.args.getD x.a.toNat 0]}:=by
 unfold Bj
 rw[aEa om,aEa om,aEh h]
theorem CS{s:Sm}{x:Ins}{d:Dv}(h:((x.op:Nat):Int)=4):Bj s x d={d with stack:=d.stack++[tru (s.flags.getD x.a.toNat false)]}:=by
 unfold Bj
 rw[aEa om,aEa om,aEa om,aEh h]
theorem CU{s:Sm}{x:Ins}{d:Dv}(h:((x.op:Nat):Int)=5):Bj s x d={d with stack:=d.stack++[s.now]}:=by
 unfold Bj
 rw[aEa om,aEa om,aEa om,aEa om,aEh h]
theorem vK{s:Sm}{x:Ins}{d:Dv}(h:((x.op:Nat):Int)=9∨((x.op:Nat):Int)=10):Bj s x d={d with stack:=d.stack.dropLast++[unV x.op (d.stack.getLastD 0)]}:=by
 unfold Bj
 rw[aEa om,aEa om,aEa om,aEa om,aEa om,aEh h]
open Go.RowKit Go.Flow Go.Mem Go.Sep
abbrev cT(s:Sm)(hh:Hd)(F:Fl)(oi:Nat)(d:Dm):List Value:=[vs s.Aa s.args s.qa,iv s.now,vs s.Ag s.flags s.qg,iv s.dsk,vs s.Af s.fail s.qf,vs d.Av d.vars d.qv,vs d.At d.tabs d.qt,vs d.dk.A d.dk.l d.dk.q,vs d.Ae d.effs d.qe,iv d.cost,vs d.As d.stack d.qs,iv d.disks,iv d.sends, .bool d.fault, .string hh.name,vs hh.Ap hh.ps hh.qp,vs hh.Ab hh.body hh.qb, .string F.name,vs F.Af F.flags F.qf,vs F.Al F.links F.ql,vs F.Ac F.comps F.qc,nv oi]
end Go.Proofs.YtlihklladkagpaaGreatDoor

/- Own text. -/
import Derived.Test.YtlihklladkagpaaGreatDoorXh
set_option linter.unusedVariables false
set_option linter.unusedSimpArgs false
set_option maxHeartbeats 2000000
set_option maxRecDepth 100000
namespace Go.Proofs.YtlihklladkagpaaGreatDoor
open Go.Proofs.Tryz
open Go.RowKit Go.Flow Go.Mem Go.Sep
theorem IB(Av At Ad:OA)(qv qt qd nd:Nat)(V:List Int)(T:List Tb)(hv:0<V.length∧V.length≤1000000)(ht:0<T.length∧T.length≤1000000):
    Dz 39 [.agg #[vs Av V qv,vs At T qt, .slice Ad nd qd]] [ros aLz Av V,ros Tb.cells At T] (fun r Γ'=>∃Bv pv Bt pt,r= .agg #[vs Bv V pv,vs Bt T pt, .slice Ad nd qd]∧Γ'=[rows aLz 2 1 Bv pv V,rows Tb.cells 58 1 Bt pt T]):=by
 refine Am func39 ntmps39 fun w0=>?_
 refine Js (To.g (Jbo fun b1=>?_))
 refine Jal fun b2=>?_
 refine Jz 3 ?_
 refine Pp [box b1 [vs Av V qv,vs At T qt, .slice Ad nd qd] 60] [⟨1,[],0⟩,⟨2,[],0⟩,⟨5,[],0⟩,⟨6,[],0⟩,⟨8,[],0⟩,⟨9,[],0⟩,⟨0,[],2⟩,⟨3,[0],2⟩,⟨4,[],2⟩,⟨7,[0,3,4],2⟩,⟨10,[0,3,4,7],0⟩,⟨11,[0,3,4,7],5⟩] mixed.h (by kernel_rfl) (ocs (oca 1 rfl) (ocn _)) (Jz 6 ?_)
 refine Fw.mk rfl rfl rfl rfl rfl (Hg (α:=Int) (enc:=aLz) rfl s28) ?_
 rintro _ _ ⟨A3,rfl,rfl⟩
 refine Fw.mk rfl rfl rfl rfl rfl (Ov Cy (m:=V) rfl s28 rfl rfl (fun w hw=>oca 3 rfl w hw) om om om) ?_
 rintro _ _ ⟨A3n,A3q,rfl,rfl⟩
 refine Fw.mk rfl rfl rfl rfl rfl (Hg (α:=Tb) (enc:=Tb.cells) rfl s57) ?_
 rintro _ _ ⟨A7,rfl,rfl⟩
 refine Fw.mk rfl rfl rfl rfl rfl (Ov Nf (m:=T) rfl s57 rfl rfl (fun w hw=>oca 6 rfl w hw) om om om) ?_
 rintro _ _ ⟨A7n,A7q,rfl,rfl⟩
 refine Fw.f rfl (.bd [vs A3n V A3q,vs A7n T A7q, .slice Ad nd qd]) ?_
 refine Fw.up rfl rfl rfl (Bl (i:=4) rfl rfl rfl r60 rfl rfl rfl (bta rfl)) (ocs (oca 5 rfl) (ocn _)) ?_
 refine Jz 3 ?_
 refine Tm [2,0] rfl (.inl rfl) results39 rfl (i:=4) rfl r60 rfl ?_
 exact⟨_,_,_,_,rfl,rfl⟩
theorem IC(Av At Ad:OA)(qv qt qd nd:Nat)(V:List Int)(T:List Tb)(hv:0<V.length∧V.length≤1000000)(ht:T.length≤1000000):
    Dz 39 [.agg #[vs Av V qv,vs At ([]:List Tb) qt, .slice Ad nd qd]] [ros aLz Av V,ros Tb.cells At ([]:List Tb)] (fun r Γ'=>∃Bv pv Bt pt,r= .agg #[vs Bv V pv, .slice Bt ([]:List Tb).length pt, .slice Ad nd qd]∧Γ'=[rows aLz 2 1 Bv pv V,rows Tb.cells 58 1 Bt pt ([]:List Tb)]):=by
 refine Am func39 ntmps39 fun w0=>?_
 refine Js (To.g (Jbo fun b1=>?_))
 refine Jal fun b2=>?_
 refine Jz 3 ?_
 refine Pp [box b1 [vs Av V qv,vs At ([]:List Tb) qt, .slice Ad nd qd] 60] [⟨1,[],0⟩,⟨2,[],0⟩,⟨5,[],0⟩,⟨6,[],0⟩,⟨8,[],0⟩,⟨9,[],0⟩,⟨0,[],2⟩,⟨3,[0],2⟩,⟨4,[],2⟩,⟨7,[0,3,4],1⟩,⟨10,[0,3,4],0⟩,⟨11,[0,3,4],5⟩] mixed.h (by kernel_rfl) (ocs (oca 1 rfl) (ocn _)) (Jz 6 ?_)
 refine Fw.mk rfl rfl rfl rfl rfl (Hg (α:=Int) (enc:=aLz) rfl s28) ?_
 rintro _ _ ⟨A3,rfl,rfl⟩
 refine Fw.mk rfl rfl rfl rfl rfl (Ov Cy (m:=V) rfl s28 rfl rfl (fun w hw=>oca 3 rfl w hw) om om om) ?_
 rintro _ _ ⟨A3n,A3q,rfl,rfl⟩
 refine Fw.mk rfl rfl rfl rfl rfl (Hg (α:=Tb) (enc:=Tb.cells) rfl s57) ?_
 rintro _ _ ⟨A7,rfl,rfl⟩
 refine Fw.r rfl (Rt rfl s57 rfl rfl rfl (aEu _)) ?_
 refine Fw.f rfl (.bd [vs A3n V A3q, .slice A7 0 0, .slice Ad nd qd]) ?_
 refine Fw.up rfl rfl rfl (Bl (i:=3) rfl rfl rfl r60 rfl rfl rfl (bta rfl)) (ocs (oca 4 rfl) (ocn _)) ?_
 refine Jz 3 ?_
 refine Tm [1,0] rfl (.inl rfl) results39 rfl (i:=3) rfl r60 rfl ?_
 exact⟨_,_,_,_,rfl,rfl⟩
theorem IE(Av At Ad:OA)(qv qt qd nd:Nat)(V:List Int)(T:List Tb)(hv:V.length≤1000000)(ht:0<T.length∧T.length≤1000000):
    Dz 39 [.agg #[vs Av ([]:List Int) qv,vs At T qt, .slice Ad nd qd]] [ros aLz Av ([]:List Int),ros Tb.cells At T] (fun r Γ'=>∃Bv pv Bt pt,r= .agg #[.slice Bv ([]:List Int).length pv,vs Bt T pt, .slice Ad nd qd]∧Γ'=[rows aLz 2 1 Bv pv ([]:List Int),rows Tb.cells 58 1 Bt pt T]):=by
 refine Am func39 ntmps39 fun w0=>?_
 refine Js (To.g (Jbo fun b1=>?_))
 refine Jal fun b2=>?_
 refine Jz 3 ?_
 refine Pp [box b1 [vs Av ([]:List Int) qv,vs At T qt, .slice Ad nd qd] 60] [⟨1,[],0⟩,⟨2,[],0⟩,⟨5,[],0⟩,⟨6,[],0⟩,⟨8,[],0⟩,⟨9,[],0⟩,⟨0,[],2⟩,⟨3,[0],1⟩,⟨4,[],2⟩,⟨7,[0,4],2⟩,⟨10,[0,4,7],0⟩,⟨11,[0,4,7],5⟩] mixed.h (by kernel_rfl) (ocs (oca 1 rfl) (ocn _)) (Jz 6 ?_)
 refine Fw.mk rfl rfl rfl rfl rfl (Hg (α:=Int) (enc:=aLz) rfl s28) ?_
 rintro _ _ ⟨A3,rfl,rfl⟩
 refine Fw.r rfl (Rt rfl s28 rfl rfl rfl (aEu _)) ?_
 refine Fw.mk rfl rfl rfl rfl rfl (Hg (α:=Tb) (enc:=Tb.cells) rfl s57) ?_
 rintro _ _ ⟨A7,rfl,rfl⟩
 refine Fw.mk rfl rfl rfl rfl rfl (Ov Nf (m:=T) rfl s57 rfl rfl (fun w hw=>oca 5 rfl w hw) om om om) ?_
 rintro _ _ ⟨A7n,A7q,rfl,rfl⟩
 refine Fw.f rfl (.bd [.slice A3 0 0,vs A7n T A7q, .slice Ad nd qd]) ?_
 refine Fw.up rfl rfl rfl (Bl (i:=3) rfl rfl rfl r60 rfl rfl rfl (bta rfl)) (ocs (oca 4 rfl) (ocn _)) ?_
 refine Jz 3 ?_
 refine Tm [2,0] rfl (.inl rfl) results39 rfl (i:=3) rfl r60 rfl ?_
 exact⟨_,_,_,_,rfl,rfl⟩
theorem IG(Av At Ad:OA)(qv qt qd nd:Nat)(V:List Int)(T:List Tb)(hv:V.length≤1000000)(ht:T.length≤1000000):
    Dz 39 [.agg #[vs Av ([]:List Int) qv,vs At ([]:List Tb) qt, .slice Ad nd qd]] [ros aLz Av ([]:List Int),ros Tb.cells At ([]:List Tb)] (fun r Γ'=>∃Bv pv Bt pt,r= .agg #[.slice Bv ([]:List Int).length pv, .slice Bt ([]:List Tb).length pt, .slice Ad nd qd]∧Γ'=[rows aLz 2 1 Bv pv ([]:List Int),rows Tb.cells 58 1 Bt pt ([]:List Tb)]):=by
 refine Am func39 ntmps39 fun w0=>?_
 refine Js (To.g (Jbo fun b1=>?_))
 refine Jal fun b2=>?_
 refine Jz 3 ?_
 refine Pp [box b1 [vs Av ([]:List Int) qv,vs At ([]:List Tb) qt, .slice Ad nd qd] 60] [⟨1,[],0⟩,⟨2,[],0⟩,⟨5,[],0⟩,⟨6,[],0⟩,⟨8,[],0⟩,⟨9,[],0⟩,⟨0,[],2⟩,⟨3,[0],1⟩,⟨4,[],2⟩,⟨7,[0,4],1⟩,⟨10,[0,4],0⟩,⟨11,[0,4],5⟩] mixed.h (by kernel_rfl) (ocs (oca 1 rfl) (ocn _)) (Jz 6 ?_)
 refine Fw.mk rfl rfl rfl rfl rfl (Hg (α:=Int) (enc:=aLz) rfl s28) ?_
 rintro _ _ ⟨A3,rfl,rfl⟩
 refine Fw.r rfl (Rt rfl s28 rfl rfl rfl (aEu _)) ?_
 refine Fw.mk rfl rfl rfl rfl rfl (Hg (α:=Tb) (enc:=Tb.cells) rfl s57) ?_
 rintro _ _ ⟨A7,rfl,rfl⟩
 refine Fw.r rfl (Rt rfl s57 rfl rfl rfl (aEu _)) ?_
 refine Fw.f rfl (.bd [.slice A3 0 0, .slice A7 0 0, .slice Ad nd qd]) ?_
 refine Fw.up rfl rfl rfl (Bl (i:=2) rfl rfl rfl r60 rfl rfl rfl (bta rfl)) (ocs (oca 3 rfl) (ocn _)) ?_
 refine Jz 3 ?_
 refine Tm [1,0] rfl (.inl rfl) results39 rfl (i:=2) rfl r60 rfl ?_
 exact⟨_,_,_,_,rfl,rfl⟩
theorem UE(Av At Ad:OA)(qv qt qd nd:Nat)(V:List Int)(T:List Tb)(hv:V.length≤1000000)(ht:T.length≤1000000):
    Dz 39 [.agg #[vs Av V qv,vs At T qt, .slice Ad nd qd]] [ros aLz Av V,ros Tb.cells At T] (fun r Γ'=>∃Bv pv Bt pt,r= .agg #[vs Bv V pv,vs Bt T pt, .slice Ad nd qd]∧Γ'=[rows aLz 2 1 Bv pv V,rows Tb.cells 58 1 Bt pt T]):=by
 cases V with
 | nil=>
   cases T with
   |nil=>exact IG Av At Ad qv qt qd nd [] [] hv ht
   |cons t T=>exact IE Av At Ad qv qt qd nd [] (t::T) hv ⟨by simp,ht⟩
 | cons y V=>
   cases T with
   |nil=>exact IC Av At Ad qv qt qd nd (y::V) [] ⟨by simp,hv⟩ ht
   |cons t T=>exact IB Av At Ad qv qt qd nd (y::V) (t::T) ⟨by simp,hv⟩ ⟨by simp,ht⟩
open Go.Sep
theorem Fit.at_{s:Sm}{x:Ins}{d:Dv}{n:Int}(h:Fit s x {d with next:=n}):Fit s x d:=⟨h.var,h.par,h.flag,h.tab,h.sends,h.ops,h.pops,h.height,h.cost⟩
def sameM(s t:Sm):Prop:=s.code=t.code∧s.args=t.args∧s.now=t.now∧s.flags=t.flags∧s.dsk=t.dsk∧∀y,y∈s.fail↔y∈t.fail
theorem vP{s t:Sm}(h:sameM s t)(x:Ins)(d:Dv):Bj s x d=Bj t x d:=by
 obtain⟨h1,h2,h3,h4,h5,h6⟩:=h
 have e:decide (s.dsk+d.disks∈s.fail)=decide (t.dsk+d.disks∈t.fail):=by rw[h5];exact decide_eq_decide.2 (h6 _)
 have e2:Ng s x d=Ng t x d:=by unfold Ng;rw[e]
 unfold Bj
 rw[h1,h2,h3,h4,e2]
theorem Fit.sameM{s t:Sm}(h:sameM s t){x:Ins}{d:Dv}(f:Fit t x d):Fit s x d:=⟨f.var,by rw[h.2.1];exact f.par,by rw[h.2.2.2.1];exact f.flag,f.tab,f.sends,f.ops,f.pops,f.height,f.cost⟩
theorem Jf.sameM{s t:Sm}(h:sameM s t){x:Ins}{d e:Dv}{a nx:Int}(r:Jf s x d a nx e):Jf t x d a nx e:=by
 unfold Jf at*
 rwa[vP h]at r
def RJ(s:Sm)(I:Nat→Dv→Prop)(v0:Dv)(k:Nat)(z:Int)(d:Dv):Prop:=
 (d.fault=false∧0≤z∧Nl s 1048576 v0=Nl s (1048576-k) {d with next:=z}∧I k {d with next:=z})∨(d.fault=true∧rs (Nl s 1048576 v0)=rs d)
theorem PI{s:Sm}{x:Ins}{d:Dv}(h:((x.op:Nat):Int)=34):Bj s x d={d with next:=s.code.length}:=by
 unfold Bj
 rw[aEa om,aEa om,aEa om,aEa om,aEa om,aEa om,aEa om,aEa om,aEa om,aEa om,aEa om,aEa om,aEh h]
theorem RJ.step{s:Sm}{I:Nat→Dv→Prop}(hR:jA s I){v0 d e:Dv}{k a:Nat}{nx:Int}{x:Ins}(h:RJ s I v0 k a d)(hf:d.fault=false)(hk:k<1048576)(hx:s.code[a]?=some x)(hs:Jf s x d a nx e):RJ s I v0 (k+1) nx e:=by
 rcases h with⟨_,h0,hv,hI⟩|⟨h1,_⟩
 · have hlt:({d with next:=((a:Nat):Int)}:Dv).next<s.code.length:=by
     have:=(aEc.1 hx).1
     show((a:Nat):Int)<_
     omega
   have hx2:s.code[({d with next:=((a:Nat):Int)}:Dv).next.toNat]?=some x:=by show s.code[((a:Nat):Int).toNat]?=some x;rw[Int.toNat_natCast];exact hx
   have e1:=Wt hlt hx2 (1048576-(k+1))
   rw[show 1048576-(k+1)+1=1048576-k by omega,←hv]at e1
   have e2:(Bj s x {({d with next:=((a:Nat):Int)}:Dv)with next:=({d with next:=((a:Nat):Int)}:Dv).next+1})=Bj s x {d with next:=a+1}:=rfl
   rw[e2]at e1
   rcases hs with⟨h34,he⟩|⟨h34,h5,h6,h7⟩|⟨h34,h5,h6⟩
   · rw[PI h34,aEa (by rw[hf];decide)]at e1
     have e3:Nl s (1048576-(k+1)) {d with next:=((s.code.length:Nat):Int)}={d with next:=((s.code.length:Nat):Int)}:=Zv (by show¬((s.code.length:Nat):Int)<((s.code.length:Nat):Int);omega) _
     exact .inr ⟨by rw[he],by rw[e1];exact(congrArg rs e3).trans (by rw[he];rfl)⟩
   · rw[aEh h5]at e1
     exact .inr ⟨h6,by rw[e1,h7]⟩
   · rw[aEa (by rw[h5];decide),←h6]at e1
     have hI2:=hR.step k _ x hI hk hx2 h5
     have hI3:I (k+1) {e with next:=nx}:=by rw[h6];exact hI2
     refine .inl ⟨?_,hR.next _ _ hI3,e1,hI3⟩
     have:=congrArg Dv.fault h6
     exact this.trans h5
 ·rw[hf]at h1;cases h1
theorem CV{s:Sm}{I:Nat→Dv→Prop}{v0 d:Dv}{k:Nat}{z:Int}(h:RJ s I v0 k z d)(hf:d.fault=true∨¬z<s.code.length):rs (Nl s 1048576 v0)=rs d:=by
 rcases h with⟨h0,_,hv,_⟩|⟨_,h⟩
 · rcases hf with hf|hf
   ·rw[h0]at hf;cases hf
   ·rw[hv,Zv hf];rfl
 ·exact h
theorem RJ.fit{s t:Sm}{I:Nat→Dv→Prop}(hR:jA t I)(hst:sameM s t){v0 d:Dv}{k a:Nat}{x:Ins}(h:RJ t I v0 k a d)(hf:d.fault=false)(hx:t.code[a]?=some x)(hfl:s.fail.length≤1000000):Fit s x d∧Okr s d:=by
 rcases h with⟨_,h0,hv,hI⟩|⟨h1,_⟩
 · have hx2:t.code[({d with next:=((a:Nat):Int)}:Dv).next.toNat]?=some x:=by show t.code[((a:Nat):Int).toNat]?=some x;rw[Int.toNat_natCast];exact hx
   obtain⟨f,o⟩:=hR.fit k _ x hI hx2
   exact⟨Fit.at_ (n:=((a:Nat):Int)) (Fit.at_ (f.sameM hst)),⟨o.tabs,o.disk,hfl,o.effs,o.sends,o.disks,by rw[hst.2.2.2.2.1];exact o.dsk⟩⟩
 ·rw[hf]at h1;cases h1
theorem RJ.effs{s:Sm}{I:Nat→Dv→Prop}(hR:jA s I){v0 d:Dv}{k:Nat}{z:Int}(h:RJ s I v0 k z d)(hf:d.fault=false):d.effs.length≤2000000:=by
 rcases h with⟨_,_,_,hI⟩|⟨h1,_⟩
 · have:=hR.effs _ _ hI
   exact this
 ·rw[hf]at h1;cases h1
open Go.RowKit Go.Flow Go.Mem Go.Sep
theorem UH(A:OA)(n ca:Nat):
    Dz 79 [.agg #[.slice A n ca]] [] (fun v Γ'=>∃b,v= .func (.func 126) #[] #[pv b]∧Γ'=[ro (some ⟨b,0,none⟩) [.slice A n ca]]):=by
 refine Am func79 ntmps79 fun w0=>?_
 refine Js (To.g (Jbo fun b1=>?_))
 refine Jz 5 ?_
 refine Jr (Rd.makeFunc rfl rfl rfl) ?_
 refine Jz 4 ?_
 refine Zh (Je1 results79 ?_)
 exact⟨_,rfl,rfl⟩
theorem PK(A:OA)(ca:Nat)(l:List (Int×Int))(hl:l.length≤1000000)(b1 lp:Nat)(J:Nat→Ai→Prop)(X:Ai→Prop)(c:Ai)
    (hY:∀(k:Nat) (c:Ai) (x:Int×Int),J k c→l[k]?=some x→Qa prog lp [iv x.1,iv x.2] [c] (fun v Γ'=>∃c',Γ'=[c']∧((v= .bool true∧J (k+1) c')∨(v= .bool false∧X c')))) (h0:J 0 c):
    Dz 126 [.func (.yield lp) #[] #[],pv b1] [ro (some ⟨b1,0,none⟩) [vs A l ca],ros Be A l,c] (fun _ Γ'=>∃c',Γ'=[c']∧(J l.length c'∨X c')):=by
 refine sF func126 rfl ntmps126 rfl (fun w0=>?_)
 refine ToR.seq (Oy (ToR.rd rfl rfl rfl (Rd.field rfl rfl WH) (ToR.rd rfl rfl rfl (Ck (i:=0) rfl rfl c52 rfl (Iq (A:=some ⟨b1,0,none⟩) (o:=0) (k:=1) rfl)) (ToR.rd rfl rfl rfl (Rd.len rfl rfl underlying52) (ToR.rd rfl rfl rfl (Rd.move rfl rfl) (ToR.nil (Jt ?_)))))))
 refine ToR.block (Ot [(0, .func (.yield lp) #[] #[]),(6,vs A l ca),(7,nv l.length),(8,nv 0)] sb (ToR.loop (fun mz ρ Γ=>∃(i:Nat) (c:Ai),ρ=[(0, .func (.yield lp) #[] #[]),(6,vs A l ca),(7,nv l.length),(8,nv i)]∧Γ=[ro (some ⟨b1,0,none⟩) [vs A l ca],ros Be A l,c]∧mz=l.length-i∧(i≤l.length)∧(J i c)) (l.length-0) ⟨0,c,rfl,rfl,rfl,(aEw _),h0⟩ ?_))
 rintro mz _ _ ⟨i,c,rfl,rfl,rfl,hi,hJ⟩
 refine ToR.seq (Oy (ToR.rd rfl rfl rfl (Rd.lss rfl rfl rfl) (ToR.nil (Jt (ToR.seq (mF rfl (fun k9=>?_) (fun k9=>?_)))))))
 obtain⟨x,hx⟩:=exg l i om
 refine ToR.skip (Jt (ToR.seq (ToR.block (ToR.seq (Oy (ToR.rd rfl rfl rfl (Yb Eu (i:=1) (j:=i) rfl rfl rfl s52 rfl hx) (ToR.rd rfl rfl rfl (Ij (i:=1) rfl rfl JQ rfl (rsg Eu hx) (Eu.len _)) ?_)))))))
 refine ToR.alloc rfl rfl rfl rfl aCz (fun b4=>?_)
 refine ToR.up rfl rfl (Bl (i:=0) rfl rfl rfl JQ rfl rfl rfl (bta rfl)) (ToR.nil (Jt (ToR.seq (Oy (ToR.rd rfl rfl rfl (Rd.move rfl rfl) (ToR.rd rfl rfl rfl (Rd.field rfl rfl QI) (ToR.rd rfl rfl rfl (Ck (i:=0) rfl rfl c2 rfl (bg1 rfl)) ?_)))))))
 refine ToR.rd rfl rfl rfl (Rd.field rfl rfl QJ) (ToR.rd rfl rfl rfl (Ck (i:=0) rfl rfl c2 rfl (bg1 rfl)) (ToR.round [3] rfl rfl rfl (QF.of rfl rfl rfl) rfl (hY i c x hJ hx) ?_))
 rintro _ _ ⟨c',rfl,(⟨rfl,hJ'⟩|⟨rfl,hX⟩)⟩
 refine ToR.rd rfl rfl rfl (Rd.not rfl rfl) (ToR.nil (Jt (EB rfl (ToR.skip (Jz 2 ?_)))))
 refine Oy (ToR.rd rfl rfl rfl (Mf rfl rfl rfl om) (ToR.rd rfl rfl rfl (Rd.move rfl rfl) (ToR.nil (Jt (Df (Jj (Jj (Vb (l.length-(i+1)) om ⟨⟨i+1,c',rfl,rfl,rfl,om,hJ'⟩,sb⟩))))))))
 refine ToR.rd rfl rfl rfl (Rd.not rfl rfl) (ToR.nil (Jt (mE rfl (ToR.ret (Jz 4 ?_)))))
 refine Dl (Cu (Df (Co (.inl rfl) results126 ?_)))
 exact⟨c',rfl, .inr hX⟩
 refine ToR.exit (Jz 3 ?_)
 refine Df (Du (Co (.inr rfl) results126 ?_))
 refine⟨c,rfl, .inl ?_⟩
 rw[show l.length=i by omega];exact hJ
theorem aV(A B:OA)(ca cb:Nat)(l m:List (Int×Int))(hl:l.length≤1000000):
    Dz 44 [.agg #[vs A l ca],vs B m cb] [ros Be A l,ros Be B m] (fun v _=>v= .bool (decide (l=m))):=by
 refine sG func44 rfl ntmps44 rfl (fun w0=>?_)
 refine Js (To.g (Jbo fun b2=>?_))
 refine Jbo fun b3=>?_
 refine Jal fun b4=>?_
 refine Jz 4 ?_
 refine Jal fun b5=>?_
 refine Jz 7 ?_
 refine Jcf [] (UH A l.length ca) ?_
 rintro _ _ ⟨bt,rfl,rfl⟩
 refine Jz 3 ?_
 refine Ot [(3,pv b3),(4,pv b4),(5,pv b5),(9, .func (.func 126) #[] #[pv bt])] sb (Er (Jj (Md (Jj (Jas [ro (some ⟨bt,0,none⟩) [vs A l ca],ros Be A l,box b4 [.bool false] 4,box b5 [nv 0] 3,box b3 [vs B m cb] 58,ros Be B m] rfl (lM (Γa:=[ro (some ⟨bt,0,none⟩) [vs A l ca],ros Be A l]) (Γc:=[box b4 [.bool false] 4,box b5 [nv 0] 3,box b3 [vs B m cb] 58,ros Be B m]) (fun Γ2=>(l.take l.length=m.take l.length∧l.length≤m.length)∧Γ2=[box b4 [.bool false] 4,box b5 [nv l.length] 3,box b3 [vs B m cb] 58,ros Be B m]) (fun Γ2=>l≠m∧∃k:Nat,Γ2=[box b4 [.bool false] 4,box b5 [nv k] 3,box b3 [vs B m cb] 58,ros Be B m]) rfl (kc.h 126 rfl) (fun lp L hLp hLa hLb hLt=>?_) ?_ ?_))))))
 refine(PK A ca l hl bt lp (fun k c=>(l.take k=m.take k∧k≤m.length)∧c=all (Jg lp L .ready none::[box b4 [.bool false] 4,box b5 [nv k] 3,box b3 [vs B m cb] 58,ros Be B m])) (fun c=>l≠m∧∃k:Nat,c=all (Jg lp L .done (some .ret)::[box b4 [.bool false] 4,box b5 [nv k] 3,box b3 [vs B m cb] 58,ros Be B m])) _ ?_ ⟨⟨rfl,aEw _⟩,rfl⟩).mono ?_
 rintro k _ x ⟨⟨hI,hkm⟩,rfl⟩ hx
 have hkl:=(aEc.1 hx).1
 refine lL (Γe:=[]) hLp hLa hLb hLt rfl rfl (fun w1=>?_)
 refine Jas [Jg lp L .ready none,box b4 [.bool false] 4,box b5 [nv k] 3,box b3 [vs B m cb] 58,ros Be B m] rfl (ToR.seq (Oy (ToR.rd rfl rfl rfl (Rd.assign rfl rfl) (ToR.nil (Jt (Oy (ToR.rd rfl rfl rfl (Rd.assign rfl rfl) ?_)))))))
 refine ToR.nil (Jt (ED (ToR.block (ToR.seq (ToR.seq (Oy (ToR.rd rfl rfl rfl (Ck (i:=2) rfl rfl c3 rfl (bg1 rfl)) (ToR.rd rfl rfl rfl (Ck (i:=3) rfl rfl c58 rfl (bg1 rfl)) ?_))))))))
 refine ToR.rd rfl rfl rfl (Rd.len rfl rfl underlying58) (ToR.rd rfl rfl rfl (Rd.geq rfl rfl rfl) (QE rfl rfl rfl (Rd.move rfl rfl) (fun g16=>?_) (fun g16=>?_)))
 refine ToR.sk rfl rfl rfl (ToR.sk rfl rfl rfl (ToR.sk rfl rfl rfl (ToR.sk rfl rfl rfl (ToR.sk rfl rfl rfl (ToR.sk rfl rfl rfl (ToR.sk rfl rfl rfl (ToR.sk rfl rfl rfl ?_)))))))
 refine ToR.rd rfl rfl rfl (rH rfl rfl rfl) (ToR.nil (Jt (mE rfl (ToR.seq (Oy (ToR.up rfl rfl (Up.store (i:=1) rfl rfl rfl c4 rfl rfl (bta rfl)) (ToR.nil ?_)))))))
 refine Jt (ToR.ret (Jz 2 ?_))
 exact zP (⟨_,rfl, .inr ⟨rfl,fun e=>by rw[e]at hkl;omega,k,rfl⟩⟩)
 obtain⟨y,hy⟩:=exg m k om
 refine ToR.rd rfl rfl rfl (Ck (i:=3) rfl rfl c58 rfl (bg1 rfl)) (ToR.rd rfl rfl rfl (Ck (i:=2) rfl rfl c3 rfl (bg1 rfl)) (ToR.rd rfl rfl rfl (Yb Eu (i:=4) (j:=k) rfl rfl rfl s58 rfl hy) (ToR.rd rfl rfl rfl (Ij (i:=4) rfl rfl r92 rfl (rsg Eu hy) (Eu.len _)) (ToR.rd rfl rfl rfl (Rd.move rfl rfl) (ToR.rd rfl rfl rfl (Rd.move rfl rfl) (ToR.rd rfl rfl rfl (.bd [iv x.1,iv x.2]) (ToR.rd rfl rfl rfl (JD (p:=y) (q:=x) aAw rfl rfl rfl) ?_)))))))
 refine ToR.rd rfl rfl rfl (gN rfl rfl rfl) (ToR.nil (Jt (mF rfl (fun k25=>?_) (fun k25=>?_))))
 refine ToR.seq (Oy (ToR.up rfl rfl (Up.store (i:=1) rfl rfl rfl c4 rfl rfl (bta rfl)) (ToR.nil (Jt (ToR.ret (Jz 2 ?_))))))
 exact zP (⟨_,rfl, .inr ⟨rfl,fun e=>k25 (by rw[e,hy]at hx;exact aEn hx),k,rfl⟩⟩)
 refine ToR.skip (Jt (Oy (ToR.rd rfl rfl rfl (Ck (i:=2) rfl rfl c3 rfl (bg1 rfl)) (ToR.rd rfl rfl rfl (Mf rfl rfl rfl om) (ToR.up rfl rfl (Up.store (i:=2) rfl rfl rfl c3 rfl rfl (bta rfl)) (ToR.nil (Jbn (EE ?_))))))))
 exact⟨_,rfl, .inl ⟨rfl,⟨by rw[Cf hx,Cf hy,hI,show x=y from(Decidable.of_not_not k25).symm],by omega⟩,rfl⟩⟩
 rintro v Γ' ⟨c',rfl,(⟨hJ,rfl⟩|⟨hX,k,rfl⟩)⟩
 ·exact⟨_, .inl ⟨rfl,hJ,rfl⟩⟩
 ·exact⟨_, .inr ⟨rfl,hX,k,rfl⟩⟩
 rintro D _ ⟨⟨hI,hlm⟩,rfl⟩
 refine Jas [dfr D,box b4 [.bool false] 4,box b5 [nv l.length] 3,box b3 [vs B m cb] 58,ros Be B m] rfl (Jz 12 ?_)
 refine UT (.inl rfl) results44 rfl (i:=0) rfl c4 rfl rfl (congrArg Value.bool (decide_eq_decide.2 ⟨fun h=>?_,fun h=>by rw[h]⟩))
 have h2:l.length=m.length:=om
 rw[List.take_length,h2,List.take_length]at hI
 exact hI
 rintro D _ ⟨hne,k,rfl⟩
 refine Jas [dfr D,box b4 [.bool false] 4,box b5 [nv k] 3,box b3 [vs B m cb] 58,ros Be B m] rfl (Jz 2 ?_)
 exact UT (.inl rfl) results44 rfl (i:=0) rfl c4 rfl rfl (congrArg Value.bool (aEo hne).symm)
def Sx.small2(s:Sx):Prop:=s.vars.length≤1000000∧s.tabs.length≤1000000∧(∀x∈s.tabs,x.l.length≤1000000)∧s.dk.l.length≤1000000
theorem rD(a b:Sx)(ha:a.small2):
    Dz 21 [.agg #[vs a.Av a.vars a.qv,vs a.At a.tabs a.qt,vs a.dk.A a.dk.l a.dk.q], .agg #[vs b.Av b.vars b.qv,vs b.At b.tabs b.qt,vs b.dk.A b.dk.l b.dk.q]] [ros aLz a.Av a.vars,ros Tb.cells a.At a.tabs,De Be (a.tabs.map Tb.ar),ros Be a.dk.A a.dk.l,ros aLz b.Av b.vars,ros Tb.cells b.At b.tabs,De Be (b.tabs.map Tb.ar),ros Be b.dk.A b.dk.l] (fun v _=>v= .bool (decide (a.val=b.val))):=by
 have hmx:∀{k:List Tb} {i:Nat} {x:Tb},k[i]?=some x→(k.map Tb.l)[i]?=some x.l:=fun h=>by rw[aEp,h];rfl
 obtain⟨ha1,ha2,ha3,ha4⟩:=id ha
 refine Am func21 ntmps21 fun w0=>?_
 refine Js (To.g (Jbo fun b2=>?_))
 refine Jbo fun b3=>?_
 refine Jz 10 ?_
 refine Jvf (dG a.Av b.Av a.qv b.qv a.vars b.vars (by have:=ha.1;omega)) rfl (ocs (oca 2 rfl) (ocs (oca 6 rfl) (ocn _))) ?_
 refine Jnt ?_
 refine JgB ?_ ?_<;>intro g12
 refine Jz 26 ?_
 refine Je1 results21 ?_
 refine congrArg Value.bool (aEo (fun e=>?_)).symm
 simp only[Sx.val,Prod.mk.injEq]at e
 obtain⟨e1,e2,e3⟩:=e
 have e4:a.tabs.length=b.tabs.length:=by simpa using congrArg List.length e2
 first|omega|simp_all
 refine Jz 8 ?_
 refine JgP ?_ ?_<;>intro g21
 refine Jz 17 ?_
 refine Je1 results21 ?_
 refine congrArg Value.bool (aEo (fun e=>?_)).symm
 simp only[Sx.val,Prod.mk.injEq]at e
 obtain⟨e1,e2,e3⟩:=e
 have e4:a.tabs.length=b.tabs.length:=by simpa using congrArg List.length e2
 first|omega|simp_all
 refine Jz 1 ?_
 refine Jr (Ij (i:=1) (us:=[vs a.dk.A a.dk.l a.dk.q]) rfl rfl r54 rfl (Fh (n:=1) rfl) rfl) ?_
 refine Jz 2 ?_
 refine Jvf (aV a.dk.A b.dk.A a.dk.q b.dk.q a.dk.l b.dk.l ha.2.2.2) rfl (ocs (oca 5 rfl) (ocs (oca 9 rfl) (ocn _))) ?_
 refine Jz 4 ?_
 refine Ed rfl ?_ ?_<;>intro k28
 refine Jz 7 ?_
 refine Je1 results21 ?_
 refine congrArg Value.bool (aEo (fun e=>?_)).symm
 simp only[Sx.val,Prod.mk.injEq]at e
 obtain⟨e1,e2,e3⟩:=e
 have e4:a.tabs.length=b.tabs.length:=by simpa using congrArg List.length e2
 first|omega|simp_all
 refine Jz 4 ?_
 have hv:a.vars=b.vars:=by simpa using g12
 have hlen:a.tabs.length=b.tabs.length:=om
 have hd:a.dk.l=b.dk.l:=by simpa using k28
 refine Jz 8 ?_
 refine Le (Ie (fun mz ρ Γ=>∃(i:Nat),ρ=[(2,pv b2),(3,pv b3),(31,nv a.tabs.length),(32,nv i)]∧Γ=[box b2 [vs a.Av a.vars a.qv,vs a.At a.tabs a.qt,vs a.dk.A a.dk.l a.dk.q] 56,box b3 [vs b.Av b.vars b.qv,vs b.At b.tabs b.qt,vs b.dk.A b.dk.l b.dk.q] 60,ros aLz a.Av a.vars,ros Tb.cells a.At a.tabs,De Be (a.tabs.map Tb.ar),ros Be a.dk.A a.dk.l,ros aLz b.Av b.vars,ros Tb.cells b.At b.tabs,De Be (b.tabs.map Tb.ar),ros Be b.dk.A b.dk.l]∧mz=a.tabs.length-i∧(i≤a.tabs.length)∧((a.tabs.map Tb.l).take i=(b.tabs.map Tb.l).take i)) (a.tabs.length-0) ⟨⟨0,rfl,rfl,rfl,(aEw _),rfl⟩,sb⟩ ?_)
 rintro mz _ _ ⟨i,rfl,rfl,rfl,hi,hI⟩
 refine Jz 6 ?_
 refine Jcp rfl ?_ ?_<;>intro k33
 obtain⟨x,hx⟩:=exg a.tabs i om
 obtain⟨y,hy⟩:=exg b.tabs i om
 refine Jz 11 ?_
 refine Jfw [] [0,2,5,7,101,103,104,106,108,109,310,11] (ocn _) ?_
 refine Jz 10 ?_
 refine Fw.qf (aV x.A y.A x.q y.q x.l y.l (ha.2.2.1 x (mog hx))) (ocs (dB 4 rfl (Ou hx Tb.ar)) (ocs (dB 8 rfl (Ou hy Tb.ar)) (ocn _))) ?_
 refine Jz 3 ?_
 refine Ed rfl ?_ ?_<;>intro k46
 refine Jz 11 ?_
 refine Je1 results21 ?_
 refine congrArg Value.bool (aEo (fun e=>?_)).symm
 simp only[Sx.val,Prod.mk.injEq]at e
 obtain⟨e1,e2,e3⟩:=e
 have e4:a.tabs.length=b.tabs.length:=by simpa using congrArg List.length e2
 have h1:=hmx hx
 rw[e2,hmx hy]at h1
 have h2:=aEn h1
 simp[h2]at k46
 refine Jz 8 ?_
 refine Vb (a.tabs.length-(i+1)) om ⟨⟨i+1,rfl,rfl,rfl,om,(by rw[Cf (hmx hx),Cf (hmx hy),hI,show x.l=y.l from by simpa using k46])⟩,sb⟩
 refine Jz 11 ?_
 refine Je1 results21 ?_
 refine congrArg Value.bool (aEk ?_).symm
 unfold Sx.val
 rw[hv,hd,wU (by simp only[aEg];omega) (by simp only[aEg];omega) hI]
def Dm.sx(d:Dm):Sx:=⟨d.Av,d.qv,d.vars,d.At,d.qt,d.tabs,d.dk⟩
theorem kZ{d e:Dm}:rs d.val=rs e.val↔d.sx.val=e.sx.val∧d.effs.map Ef.val=e.effs.map Ef.val∧d.cost=e.cost:=by
 unfold rs Dm.val Sx.val Dm.sx
 simp only[Prod.mk.injEq]
 constructor
 ·rintro⟨h1,h2,h3,h4,h5⟩;exact⟨⟨h1,h2,h3⟩,h4,h5⟩
 ·rintro⟨⟨h1,h2,h3⟩,h4,h5⟩;exact⟨h1,h2,h3,h4,h5⟩
theorem UI(d e:Dm)(hd:d.sx.small2)(hk:∀x∈d.effs,0≤x.k∧x.k≤255)(hea:∀x∈d.effs,x.args.length≤1000000000000)(hel:d.effs.length≤1000000000):
    Dz 15 [.agg #[vs d.Av d.vars d.qv,vs d.At d.tabs d.qt,vs d.dk.A d.dk.l d.dk.q,vs d.Ae d.effs d.qe,iv d.cost], .agg #[vs e.Av e.vars e.qv,vs e.At e.tabs e.qt,vs e.dk.A e.dk.l e.dk.q,vs e.Ae e.effs e.qe,iv e.cost]] [ros aLz d.Av d.vars,ros Tb.cells d.At d.tabs,De Be (d.tabs.map Tb.ar),ros Be d.dk.A d.dk.l,ros Ef.cells d.Ae d.effs,De aLz (d.effs.map Ef.ar),ros aLz e.Av e.vars,ros Tb.cells e.At e.tabs,De Be (e.tabs.map Tb.ar),ros Be e.dk.A e.dk.l,ros Dp e.Ae e.effs,De aLz (e.effs.map Ef.ar)] (fun v _=>v= .bool (decide (rs d.val=rs e.val))):=by
 have hmx:∀{k:List Ef} {i:Nat} {x:Ef},k[i]?=some x→(k.map Ef.val)[i]?=some x.val:=fun h=>by rw[aEp,h];rfl
 refine Am func15 ntmps15 fun w0=>?_
 refine Js (To.g (Jbo fun b2=>?_))
 refine Jbo fun b3=>?_
 refine Jz 11 ?_
 refine JgP ?_ ?_<;>intro g13
 refine Jz 26 ?_
 refine Je1 results15 ?_
 refine congrArg Value.bool (aEo (fun h=>?_)).symm
 rw[kZ]at h
 obtain⟨h1,h2,h3⟩:=h
 have h4:d.effs.length=e.effs.length:=by simpa using congrArg List.length h2
 first|omega|simp_all
 refine Jz 8 ?_
 refine JgP ?_ ?_<;>intro g22
 refine Jz 17 ?_
 refine Je1 results15 ?_
 refine congrArg Value.bool (aEo (fun h=>?_)).symm
 rw[kZ]at h
 obtain⟨h1,h2,h3⟩:=h
 have h4:d.effs.length=e.effs.length:=by simpa using congrArg List.length h2
 first|omega|simp_all
 refine Jz 1 ?_
 refine Jr (Ij (i:=1) (us:=[vs d.Av d.vars d.qv,vs d.At d.tabs d.qt,vs d.dk.A d.dk.l d.dk.q]) rfl rfl r56 rfl (Fh (n:=3) rfl) rfl) ?_
 refine Jz 1 ?_
 refine Jr (Ij (i:=0) (us:=[vs e.Av e.vars e.qv,vs e.At e.tabs e.qt,vs e.dk.A e.dk.l e.dk.q]) rfl rfl r60 rfl (Fh (n:=3) rfl) rfl) ?_
 refine Jvf (rD d.sx e.sx hd) rfl (ocs (oca 2 rfl) (ocs (oca 3 rfl) (ocs (oca 4 rfl) (ocs (oca 5 rfl) (ocs (oca 8 rfl) (ocs (oca 9 rfl) (ocs (oca 10 rfl) (ocs (oca 11 rfl) (ocn _))))))))) ?_
 refine Jz 4 ?_
 refine Ed rfl ?_ ?_<;>intro k29
 refine Jz 7 ?_
 refine Je1 results15 ?_
 refine congrArg Value.bool (aEo (fun h=>?_)).symm
 rw[kZ]at h
 obtain⟨h1,h2,h3⟩:=h
 have h4:d.effs.length=e.effs.length:=by simpa using congrArg List.length h2
 first|omega|simp_all
 refine Jz 4 ?_
 have hco:d.cost=e.cost:=om
 have hlen:d.effs.length=e.effs.length:=om
 have hs:d.sx.val=e.sx.val:=by simpa using k29
 refine Jz 8 ?_
 refine Le (Ie (fun mz ρ Γ=>∃(i:Nat),ρ=[(2,pv b2),(3,pv b3),(31,vs d.Ae d.effs d.qe),(32,nv d.effs.length),(33,nv i)]∧Γ=[box b2 [vs d.Av d.vars d.qv,vs d.At d.tabs d.qt,vs d.dk.A d.dk.l d.dk.q,vs d.Ae d.effs d.qe,iv d.cost] 70,box b3 [vs e.Av e.vars e.qv,vs e.At e.tabs e.qt,vs e.dk.A e.dk.l e.dk.q,vs e.Ae e.effs e.qe,iv e.cost] 81,ros aLz d.Av d.vars,ros Tb.cells d.At d.tabs,De Be (d.tabs.map Tb.ar),ros Be d.dk.A d.dk.l,ros Ef.cells d.Ae d.effs,De aLz (d.effs.map Ef.ar),ros aLz e.Av e.vars,ros Tb.cells e.At e.tabs,De Be (e.tabs.map Tb.ar),ros Be e.dk.A e.dk.l,ros Dp e.Ae e.effs,De aLz (e.effs.map Ef.ar)]∧mz=d.effs.length-i∧(i≤d.effs.length)∧((d.effs.map Ef.val).take i=(e.effs.map Ef.val).take i)) (d.effs.length-0) ⟨⟨0,rfl,rfl,rfl,(aEw _),rfl⟩,sb⟩ ?_)
 rintro mz _ _ ⟨i,rfl,rfl,rfl,hi,hI⟩
 refine Jz 6 ?_
 refine Jcp rfl ?_ ?_<;>intro k34
 refine Jz 5 ?_
 obtain⟨x,hx⟩:=exg d.effs i om
 obtain⟨y,hy⟩:=exg e.effs i om
 have hxk:=hk x (mog hx)
 refine Jz 4 ?_
 refine Jal fun b6=>?_
 refine Jz 11 ?_
 refine Jal fun b7=>?_
 refine Jz 5 ?_
 refine cK (T:=Bool) (fun t=>([(2,pv b2),(3,pv b3),(31,vs d.Ae d.effs d.qe),(32,nv d.effs.length),(33,nv i),(5,nv i),(98, .bool t)],[box b2 [vs d.Av d.vars d.qv,vs d.At d.tabs d.qt,vs d.dk.A d.dk.l d.dk.q,vs d.Ae d.effs d.qe,iv d.cost] 70,box b3 [vs e.Av e.vars e.qv,vs e.At e.tabs e.qt,vs e.dk.A e.dk.l e.dk.q,vs e.Ae e.effs e.qe,iv e.cost] 81,ros aLz d.Av d.vars,ros Tb.cells d.At d.tabs,De Be (d.tabs.map Tb.ar),ros Be d.dk.A d.dk.l,ros Ef.cells d.Ae d.effs,De aLz (d.effs.map Ef.ar),ros aLz e.Av e.vars,ros Tb.cells e.At e.tabs,De Be (e.tabs.map Tb.ar),ros Be e.dk.A e.dk.l,ros Dp e.Ae e.effs,De aLz (e.effs.map Ef.ar)])) (fun t=>t=(decide (x.val≠y.val))) ?_ (fun t ht=>?_)
 refine Jz 2 ?_
 refine Jr (Fv rfl rfl underlying84 underlying3 (IntWalk.i64_in _ om)) ?_
 refine Jz 3 ?_
 refine JgP ?_ ?_<;>intro g49
 refine Jz 51 ?_
 refine Df (Du (Jhe true (by simp[Ef.val,g49]) sb rfl))
 refine Jz 6 ?_
 refine JgP ?_ ?_<;>intro g56
 refine Jz 44 ?_
 refine Df (Du (Jhe true (by simp[Ef.val,Decidable.of_not_not g49,g56]) sb rfl))
 refine Jz 6 ?_
 refine JgP ?_ ?_<;>intro g63
 refine Jz 37 ?_
 refine Df (Du (Jhe true (by simp[Ef.val,Decidable.of_not_not g49,Decidable.of_not_not g56,g63]) sb rfl))
 refine Jz 6 ?_
 refine JgP ?_ ?_<;>intro g70
 refine Jz 30 ?_
 refine Df (Du (Jhe true (by simp[Ef.val,Decidable.of_not_not g49,Decidable.of_not_not g56,Decidable.of_not_not g63,g70]) sb rfl))
 refine Jz 6 ?_
 refine JgP ?_ ?_<;>intro g77
 refine Jz 23 ?_
 refine Df (Du (Jhe true (by simp[Ef.val,Decidable.of_not_not g49,Decidable.of_not_not g56,Decidable.of_not_not g63,Decidable.of_not_not g70,g77]) sb rfl))
 refine Jz 6 ?_
 refine JgP ?_ ?_<;>intro g84
 refine Jz 16 ?_
 refine Df (Du (Jhe true (by simp[Ef.val,Decidable.of_not_not g49,Decidable.of_not_not g56,Decidable.of_not_not g63,Decidable.of_not_not g70,Decidable.of_not_not g77,g84]) sb rfl))
 refine Jz 4 ?_
 refine Jr (PZ rfl underlying4 rfl rfl) ?_
 refine JpF ?_
 refine JgB ?_ ?_<;>intro g91
 refine Jz 9 ?_
 refine Df (Du (Jhe true (by(simp at g91);simp[Ef.val,Decidable.of_not_not g49,Decidable.of_not_not g56,Decidable.of_not_not g63,Decidable.of_not_not g70,Decidable.of_not_not g77,Decidable.of_not_not g84,g91]) sb rfl))
 refine Jz 4 ?_
 refine Jvf (dG x.A y.A x.q y.q x.args y.args (hea x (mog hx))) rfl (ocs (dB 9 rfl (Ou hx Ef.ar)) (ocs (dB 15 rfl (Ou hy Ef.ar)) (ocn _))) ?_
 refine Jz 4 ?_
 refine Df (Du (Jhe (!(decide (x.args=y.args))) (by(simp at g91);simp[Ef.val,Decidable.of_not_not g49,Decidable.of_not_not g56,Decidable.of_not_not g63,Decidable.of_not_not g70,Decidable.of_not_not g77,Decidable.of_not_not g84,g91]) sb rfl))
 subst ht
 dsimp only
 refine Jcp rfl ?_ ?_<;>intro k98
 refine Jz 11 ?_
 refine Je1 results15 ?_
 refine congrArg Value.bool (aEo (fun h=>?_)).symm
 rw[kZ]at h
 obtain⟨h1,h2,h3⟩:=h
 have h4:d.effs.length=e.effs.length:=by simpa using congrArg List.length h2
 have h5:=hmx hx
 rw[h2,hmx hy]at h5
 exact k98 (aEn h5).symm
 refine Jz 8 ?_
 refine Vb (d.effs.length-(i+1)) om ⟨⟨i+1,rfl,rfl,rfl,om,(by rw[Cf (hmx hx),Cf (hmx hy),hI,show x.val=y.val from Decidable.of_not_not k98])⟩,sb⟩
 refine Jz 11 ?_
 refine Je1 results15 ?_
 refine congrArg Value.bool (aEk ?_).symm
 rw[kZ]
 exact⟨hs,wU (by simp only[aEg];omega) (by simp only[aEg];omega) hI,hco⟩
open Go.Sep Go.RowKit Go.Flow Go.Mem
theorem eD{α:Type}{enc:α→List Value}{e:TypeId}{size:Nat}{A:OA}{cap:Nat}{l:List α}{Δ:List Ai}{w:World}(hs:sat (rows enc e size A cap l::Δ) w):Dj (rows enc e size A cap l::Δ) (ros enc A l::Δ) w w:=by
 refine Dj.frame (Γ:=[rows enc e size A cap l]) (Γ':=[ros enc A l]) hs ⟨⟨fun c hc=>?_,by simp[owns,ros,ro],fun g _=>by simp[owns,ros,ro]⟩,Ey.refl _ _,fun g hg=>by simp[owns,ros,ro]at hg,fun g hg _=>?_⟩
 · rw[aEr.1 hc]
   exact Ht (Γ:=[rows enc e size A cap l]) 0 rfl w (fun c hc=>hs.each c (by rw[aEr.1 hc];exact aEd ..))
 · refine .inl ?_
   have h1:g∈Lu A (l.flatMap enc):=by simpa[reads,ros,ro]using hg
   have h2:g∈Ny A:=by
    cases h3:l.flatMap enc with
    |nil=>rw[h3]at h1;simp[Lu]at h1
    |cons u us=>rw[h3]at h1;exact h1
   simpa[owns,rows,row]using h2
theorem vQ{P:Program}{f:FuncId}{args:List Value}{Γ:List Ai}{R:Value→List Ai→Prop}{α:Type}{enc:α→List Value}{e:TypeId}{size:Nat}{A:OA}{cap:Nat}{l:List α}(h:aMa P f args (ros enc A l::Γ) R):aMa P f args (rows enc e size A cap l::Γ) R:=fun w hs=>
 (h w (eD hs).sat).mono fun _ _ ⟨v,Γ',h1,h2,h3⟩=>⟨v,Γ',h1,h2,(eD hs).trans h3⟩
def PL(e:EfV):Prop:=(0≤e.k∧e.k≤255)∧e.args.length≤1000
structure lN(mv nt:Nat)(d:Dv):Prop where
 effs:∀e∈d.effs,PL e
 vars:d.vars.length=mv
 tabs:d.tabs.length=nt
 good:∀t∈d.tabs,Good t
 disk:Good d.disk
theorem Ua{l:List EfV}{e:EfV}(h:∀e∈l,PL e)(he:PL e):∀e'∈l++[e],PL e':=fun e' h'=>by
 rcases aFi.1 h' with h1|h1
 ·exact h e' h1
 ·rw[aEr.1 h1];exact he
theorem lN.stop{mv nt:Nat}{d:Dv}(h:lN mv nt d):lN mv nt (Zu d):=⟨Ua h.effs ⟨by decide,by simp[Ph]⟩,h.vars,h.tabs,h.good,h.disk⟩
theorem lN.step{mv nt:Nat}{s:Sm}{x:Ins}{d:Dv}(h:lN mv nt d)(hf:Fit s x d):lN mv nt (Bj s x d):=by
 by_cases h1:((x.op:Nat):Int)=30∨((x.op:Nat):Int)=31
 · rw[Qb h1]
   have hn:=hf.sends h1
   have hl:(d.stack.drop (d.stack.length-x.n.toNat)).length≤1000:=by rw[aFk];omega
   by_cases h8:d.sends=8
   ·rw[pQ h8];exact⟨h.effs,h.vars,h.tabs,h.good,h.disk⟩
   · by_cases h31:((x.op:Nat):Int)=31
     ·rw[jC h8 h31];exact⟨Ua h.effs ⟨by show(0:Int)≤2∧(2:Int)≤255;decide,hl⟩,h.vars,h.tabs,h.good,h.disk⟩
     ·rw[jD h8 h31];exact⟨Ua h.effs ⟨by show(0:Int)≤1∧(1:Int)≤255;decide,hl⟩,h.vars,h.tabs,h.good,h.disk⟩
 by_cases h2:((x.op:Nat):Int)=32∨((x.op:Nat):Int)=33
 · rw[Ml h2]
   obtain⟨P,_⟩:=jF (s:=s) h2 hf.pops
   refine⟨?_,P.vars.trans h.vars,P.tabs.trans h.tabs,P.good h.good,P.disk h.disk⟩
   by_cases h32:((x.op:Nat):Int)=32
   ·rw[jE h32];exact Ua h.effs ⟨by show(0:Int)≤3∧(3:Int)≤255;decide,by simp⟩
   · by_cases hb:s.dsk+d.disks∈s.fail
     ·rw[bN h32 hb];exact Ua h.effs ⟨by show(0:Int)≤4∧(4:Int)≤255;decide,by simp⟩
     ·rw[bO h32 hb];exact Ua h.effs ⟨by show(0:Int)≤4∧(4:Int)≤255;decide,by simp⟩
 by_cases h3:((x.op:Nat):Int)=6∨((x.op:Nat):Int)=7∨((x.op:Nat):Int)=8∨((x.op:Nat):Int)=25∨((x.op:Nat):Int)=26
 · rw[Gl h3]
   obtain⟨P,_⟩:=dK h3 hf.pops
   exact⟨by rw[dJ];exact h.effs,P.vars.trans h.vars,P.tabs.trans h.tabs,P.good h.good,P.disk h.disk⟩
 have hs:Ui x:=by unfold Ui;omega
 obtain⟨_,p2,p3,_,_⟩:=iP (s:=s) (d:=d) hs hf.ops hf.pops
 obtain⟨k1,k2,_,_⟩:=aB (s:=s) (d:=d) hs
 exact⟨by rw[p3];exact h.effs,p2.trans h.vars,by rw[k1];exact h.tabs,by rw[k1];exact h.good,by rw[k2];exact h.disk⟩
theorem CW{s:Sm}{I:Nat→Dv→Prop}(hR:jA s I){mv nt:Nat}:∀(f k:Nat) (d:Dv),k+f=1048576→I k d→lN mv nt d→lN mv nt (Nl s f d)∧(Nl s f d).effs.length≤2000002
 | 0,k,d,hk,hI,h=>by
   have he:=hR.effs _ _ hI
   rw[Nl]
   split
   · refine⟨lN.stop ⟨h.effs,h.vars,h.tabs,h.good,h.disk⟩,?_⟩
     show(d.effs++[Ph]).length≤2000002
     rw[lap];simp only[lc1,ln0];omega
   ·exact⟨h,by omega⟩
 | f + 1,k,d,hk,hI,h=>by
   have he:=hR.effs _ _ hI
   have hn:=hR.next _ _ hI
   by_cases hlt:d.next<s.code.length
   · obtain⟨x,hx⟩:∃x,s.code[d.next.toNat]?=some x:=⟨s.code[d.next.toNat]'om,gge _⟩
     rw[Wt hlt hx]
     obtain⟨f1,_⟩:=hR.fit _ _ x hI hx
     have h2:lN mv nt {d with next:=d.next+1}:=⟨h.effs,h.vars,h.tabs,h.good,h.disk⟩
     have h3:=h2.step f1
     have h4:=jB s x {d with next:=d.next+1}
     by_cases hf:(Bj s x {d with next:=d.next+1}).fault=true
     · rw[aEh hf]
       refine⟨h3.stop,?_⟩
       show((Bj s x {d with next:=d.next+1}).effs++[Ph]).length≤2000002
       have h5:({d with next:=d.next+1}:Dv).effs.length≤2000000:=he
       rw[lap];simp only[lc1,ln0];omega
     · rw[aEa hf]
       exact CW hR f (k+1) _ om (hR.step _ _ x hI om hx (by simpa using hf)) h3
   ·rw[Zv hlt];exact⟨h,by omega⟩
theorem vS{a:Sx}{w:Wx}{mv nt:Nat}(h:a.val=stV w mv nt)(hnt:nt≤16):a.vars.length=mv∧a.tabs.length=nt∧(∀y∈a.tabs,Good y.l)∧Good a.dk.l:=by
 unfold Sx.val stV at h
 simp only[Prod.mk.injEq]at h
 obtain⟨h1,h2,h3⟩:=h
 refine⟨by rw[h1,eZ],?_,fun y hy=>?_,?_⟩
 · have:=congrArg List.length h2
   rwa[aEg,iV]at this
 · have h4:y.l∈a.tabs.map Tb.l:=aEv.2 ⟨y,hy,rfl⟩
   rw[h2]at h4
   obtain⟨i,_,h5⟩:=aEv.1 h4
   rw[←h5]
   exact Good.of (by rw[aEe];omega)
 ·rw[h3];exact Good.of (by rw[aEe];omega)
theorem IK{c:Cl}{l:List Ins}{pr st:Int}{a:Sx}{d:Dm}{mv nt:Nat}(hnv:mv≤1000)(hnt:nt≤16)(hv0:Kg pr st l=0)(hpr:(c.args.length:Int)=pr)(href:∀x∈l,Fq x a.vars.length a.tabs.length c.flags.length=true)(hfl:c.fail.length≤12)(hdsk:0≤c.dsk∧c.dsk≤1000000000)
    (hg:a.vars.length=mv∧a.tabs.length=nt∧(∀y∈a.tabs,Good y.l)∧Good a.dk.l) (hv:d.val=Nl (c.sm l) 1048576 (d0G a.vars (a.tabs.map Tb.l) a.dk.l)):d.sx.small2∧(∀x∈d.effs,0≤x.k∧x.k≤255)∧(∀x∈d.effs,x.args.length≤1000000000000)∧d.effs.length≤1000000000:=by
 obtain⟨g1,g2,g3,g4⟩:=hg
 have hgt:∀t∈a.tabs.map Tb.l,Good t:=fun t ht=>by obtain⟨y,hy,rfl⟩:=aEv.1 ht;exact g3 y hy
 obtain⟨I,hR,hI⟩:=pR (s:=c.sm l) (V:=a.vars) (tb:=a.tabs.map Tb.l) (dk:=a.dk.l) hv0 (fun x hx=>by rw[aEg];exact href x hx) hpr (Yi _) (by show(Ev Jb c.fail).length≤1000000;rw[Mt];omega) hdsk hgt g4
 obtain⟨F,hl⟩:=CW hR (mv:=mv) (nt:=nt) 1048576 0 _ om hI ⟨by simp,g1,by show(a.tabs.map Tb.l).length=nt;rw[aEg];exact g2,hgt,g4⟩
 rw[←hv]at F hl
 have e1:d.effs.length=d.val.effs.length:=by show _=(d.effs.map Ef.val).length;rw[aEg]
 have e2:∀x∈d.effs,PL x.val:=fun x hx=>F.effs _ (aEv.2 ⟨x,hx,rfl⟩)
 refine⟨⟨?_,?_,fun y hy=>?_,?_⟩,fun x hx=>(e2 x hx).1,fun x hx=>aGd (e2 x hx).2 (by decide),by omega⟩
 · have:d.vars.length=mv:=F.vars
   show d.vars.length≤1000000;omega
 · have:(d.tabs.map Tb.l).length=nt:=F.tabs
   rw[aEg]at this
   show d.tabs.length≤1000000;omega
 ·have:=(F.good y.l (aEv.2 ⟨y,hy,rfl⟩)).len;omega
 · have:Good d.dk.l:=F.disk
   have:=this.len
   show d.dk.l.length≤1000000;omega
end Go.Proofs.YtlihklladkagpaaGreatDoor

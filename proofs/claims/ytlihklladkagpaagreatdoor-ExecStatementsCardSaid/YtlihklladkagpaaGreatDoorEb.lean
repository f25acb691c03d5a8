/- Own text. -/
import Derived.Test.YtlihklladkagpaaGreatDoorEa
import Derived.Test.YtlihklladkagpaaGreatDoorQb
set_option linter.unusedVariables false
set_option linter.unusedSimpArgs false
set_option maxHeartbeats 2000000
set_option maxRecDepth 100000
namespace Go.Proofs.YtlihklladkagpaaGreatDoor
open Go.Proofs.Tryz
open Go.RowKit Go.Flow Go.Mem Go.Sep Go.In
def aJe(s:ByteArray):List Vr→Nat→Nat→Int
 |[],_,_=>-1
 |y::r,v,t=>if y.name=s∧y.ty=3 then(t:Int)else if y.name=s then(v:Int)else if y.ty=3 then aJe s r v (t+1)else aJe s r (v+1) t
theorem aIx(s:ByteArray)(y:Vr)(r:List Vr)(v t:Nat):aJe s (y::r) v t=if y.name=s∧y.ty=3 then(t:Int)else if y.name=s then(v:Int)else if y.ty=3 then aJe s r v (t+1)else aJe s r (v+1) t:=rfl
theorem aIu(b:Nat)(s:Sm)(hh:Hd)(F:Fl)(oi:Nat)(d:Dm)(c:Cm)(hc:F.comps[oi]?=some c)(hvl:c.vars.length≤1000)(nm:ByteArray):
    Dz 123 [pv b, .string nm] [ro (some ⟨b,0,none⟩) (cT s hh F oi d),ros Jl F.Ac F.comps,ros Oj c.Av c.vars] (fun v _=>v=iv (aJe nm c.vars 0 0)):=by
 refine Am func123 ntmps123 fun w0=>?_
 refine Jz 13 ?_
 refine Jfw [ro (some ⟨b,0,none⟩) (cT s hh F oi d),ros Jl F.Ac F.comps] [0,1,2,3,5,6,7,13,104,108,109,10,111,12] (ocs (oca 0 rfl) (ocs (oca 1 rfl) (ocn _))) ?_
 refine Jz 8 ?_
 refine Fw.r rfl (Ck (i:=0) rfl rfl c34 rfl (Iq (A:=some ⟨b,0,none⟩) (o:=20) (k:=1) rfl)) ?_
 refine Fw.r rfl (Ck (i:=0) rfl rfl c3 rfl (Iq (A:=some ⟨b,0,none⟩) (o:=21) (k:=1) rfl)) ?_
 refine Jz 7 ?_
 refine Cw (fun s g mz ρ Γ=>∃(v:Nat) (t:Nat) (k:Nat),ρ=[s 1,(5,nv v),(6,nv t),s 20,s 21,(22,nv k)]∧Γ=[g 2]∧mz=c.vars.length-k∧(k≤c.vars.length)∧(v+t=k)∧(aJe nm c.vars 0 0=aJe nm (c.vars.drop k) v t)) ⟨⟨0,0,0,rfl,rfl,rfl,om,rfl,rfl⟩,sb⟩ ?_
 rintro mz _ _ ⟨v,t,k,rfl,rfl,rfl,hk,hvt,hI⟩
 refine Jz 6 ?_
 refine Jcp rfl ?_ ?_<;>intro k23
 obtain⟨y,hy⟩:=exg c.vars k om
 refine Jz 8 ?_
 refine Jal fun b8=>?_
 refine Jz 9 ?_
 refine Jr (Nt rfl rfl rfl) ?_
 refine JgP ?_ ?_<;>intro g30
 refine Jz 6 ?_
 refine Jcp rfl ?_ ?_<;>intro k34
 refine Jz 13 ?_
 refine Df (Du (Je1 results123 ?_))
 exact congrArg iv (by rw[hI,dog hy,aIx];simp_all<;>(intro h;omega))
 refine Jz 8 ?_
 refine Jr (Nt rfl rfl rfl) ?_
 refine Jn (Jt (Jcp rfl (fun k39=>?_) (fun k39=>?_)))
 refine Jz 13 ?_
 refine Df (Du (Je1 results123 ?_))
 exact congrArg iv (by rw[hI,dog hy,aIx];simp_all<;>(intro h;omega))
 refine Jz 9 ?_
 refine vZ (congrArg (fun b=>some (Value.bool b)) (aEo k34)) (Jz 12 ?_)
 refine Cg ⟨⟨v+1,t,k+1,rfl,rfl,rfl,om,om,(by rw[hI,dog hy,aIx];simp_all<;>(intro h;omega))⟩,sb⟩
 refine Jz 15 ?_
 refine Jr (Nt rfl rfl rfl) ?_
 refine Jn (Jt (Jcp rfl (fun k39=>?_) (fun k39=>?_)))
 refine Jz 13 ?_
 refine Df (Du (Je1 results123 ?_))
 exact congrArg iv (by rw[hI,dog hy,aIx];simp_all<;>(intro h;omega))
 refine Jz 9 ?_
 refine Jcp rfl ?_ ?_<;>intro k43
 refine Jz 12 ?_
 refine Cg ⟨⟨v,t+1,k+1,rfl,rfl,rfl,om,om,(by rw[hI,dog hy,aIx];simp_all<;>(intro h;omega))⟩,sb⟩
 refine Jz 12 ?_
 refine Cg ⟨⟨v+1,t,k+1,rfl,rfl,rfl,om,om,(by rw[hI,dog hy,aIx];simp_all<;>(intro h;omega))⟩,sb⟩
 refine Jz 11 ?_
 refine Du (Je1 results123 ?_)
 exact congrArg iv (by rw[hI,aFh om];rfl)
def aKf(ps fl:List ByteArray)(vars:List Vr)(nm:ByteArray):Ins:=match ixF nm 0 ps with|some k=>⟨3,(k:Int),0,0⟩|none=>match ixF nm 0 fl with|some k=>⟨4,(k:Int),0,0⟩|none=>⟨2,aJe nm vars 0 0,0,0⟩
theorem aJn(s x:ByteArray)(k:Nat)(r:List ByteArray):ixF s k (x::r)=if x=s then some k else ixF s (k+1) r:=rfl
def aKi(hh:Hd)(F:Fl)(c:Cm)(cc:Cc)(n:Nat)(nm:ByteArray):Prop:=aKf hh.ps (F.flags.map Fg.name) c.vars nm=cc.pn nm∧((cc.pn nm).op=2→∃k:Nat,(cc.pn nm).a=(k:Int)∧k<n)
structure TrE(s:Sm)(hh:Hd)(F:Fl)(c:Cm)(oi:Nat):Prop where
 comp:F.comps[oi]?=some c
 vl:c.vars.length≤1000
 ps:hh.ps.length=s.args.length
 fl:F.flags.length=s.flags.length
 psl:hh.ps.length≤1000
 fll:F.flags.length≤1000
theorem aLp{l:List Fg}{k:Nat}{x:Fg}(hx:l[k]?=some x):(l.drop k).map Fg.name=x.name::(l.drop (k+1)).map Fg.name:=mdg Fg.name hx
theorem aLa(b:Nat)(s:Sm)(hh:Hd)(F:Fl)(oi:Nat)(d:Dm)(c:Cm)(cc:Cc)(ht:TrE s hh F c oi)(nm:ByteArray)(hn:aKi hh F c cc d.vars.length nm):
    Dz 122 [pv b, .string nm] [ro (some ⟨b,0,none⟩) (cT s hh F oi d),ros aMb hh.Ap hh.ps,ros Gx F.Af F.flags,ros Jl F.Ac F.comps,ros Oj c.Av c.vars,ros aLz s.Aa s.args,ros Qv s.Ag s.flags,ros aLz d.Av d.vars] (fun v _=>v=iv (nmV cc s d.val nm)):=by
 have hpl:=ht.psl
 have hfl:=ht.fll
 refine Am func122 ntmps122 fun w0=>?_
 refine Jz 12 ?_
 refine Jr (Ck (i:=0) rfl rfl c37 rfl (Iq (A:=some ⟨b,0,none⟩) (o:=15) (k:=1) rfl)) ?_
 refine Jz 5 ?_
 refine Lf (fun u g mz ρ Γ=>∃(k:Nat),ρ=[u 0,u 1,u 13,u 14,(15,nv k)]∧Γ=[g 0,g 1,g 2,g 3,g 4,g 5,g 6,g 7]∧mz=hh.ps.length-k∧(k≤hh.ps.length)∧(ixF nm 0 hh.ps=ixF nm k (hh.ps.drop k))) ⟨⟨0,rfl,rfl,rfl,om,rfl⟩,sb⟩ ?_
 rintro mz _ _ ⟨k,rfl,rfl,rfl,hk,hI⟩
 refine Jz 6 ?_
 refine Jcp rfl ?_ ?_<;>intro k16
 obtain⟨y,hy⟩:=exg hh.ps k om
 have hka:k<s.args.length:=by have:=ht.ps;omega
 obtain⟨z,hz⟩:=exg s.args k om
 refine Jz 17 ?_
 refine Jr (Nt rfl rfl rfl) ?_
 refine Jn (Jt (Jcp rfl (fun k22=>?_) (fun k22=>?_)))
 refine Jz 6 ?_
 refine Jr (Ck (i:=0) rfl rfl c28 rfl (Iq (A:=some ⟨b,0,none⟩) (o:=0) (k:=1) rfl)) ?_
 refine Jz 12 ?_
 refine Xp (Lj (Iu (Er (Dl (Cu (Df (Du (Je1 results122 ?_))))))))
 have hx:ixF nm 0 hh.ps=some k:=by rw[hI,dog hy,aJn,aEh (by assumption)]
 exact congrArg iv (by unfold nmV;rw[←hn.1];unfold aKf;rw[hx];simp only[hz,aEx,Int.toNat_natCast,Option.getD_some];rfl)
 refine Jz 8 ?_
 refine Hu ⟨⟨k+1,rfl,rfl,rfl,om,(by rw[hI,dog hy,aJn,aEa (by assumption)])⟩,sb⟩
 refine Jz 7 ?_
 have hP:ixF nm 0 hh.ps=none:=by rw[hI,aFh om];rfl
 refine Jz 5 ?_
 refine Jr (Ck (i:=0) rfl rfl c32 rfl (Iq (A:=some ⟨b,0,none⟩) (o:=18) (k:=1) rfl)) ?_
 refine Jz 5 ?_
 refine Lf (fun u g mz ρ Γ=>∃(k:Nat),ρ=[u 0,u 1,u 36,u 37,(38,nv k)]∧Γ=[g 0,g 1,g 2,g 3,g 4,g 5,g 6,g 7]∧mz=F.flags.length-k∧(k≤F.flags.length)∧(ixF nm 0 (F.flags.map Fg.name)=ixF nm k ((F.flags.drop k).map Fg.name))) ⟨⟨0,rfl,rfl,rfl,om,rfl⟩,sb⟩ ?_
 rintro mz _ _ ⟨k,rfl,rfl,rfl,hk,hJ⟩
 refine Jz 6 ?_
 refine Jcp rfl ?_ ?_<;>intro k39
 obtain⟨y,hy⟩:=exg F.flags k om
 have hka:k<s.flags.length:=by have:=ht.fl;omega
 obtain⟨z,hz⟩:=exg s.flags k om
 refine Jz 9 ?_
 refine Jal fun b8=>?_
 refine Jz 9 ?_
 refine Jr (Nt rfl rfl rfl) ?_
 refine Jn (Jt (Jcp rfl (fun k46=>?_) (fun k46=>?_)))
 refine Jz 6 ?_
 refine Jr (Ck (i:=1) rfl rfl c61 rfl (Iq (A:=some ⟨b,0,none⟩) (o:=2) (k:=1) rfl)) ?_
 refine Jz 3 ?_
 refine Jvf (Qj z) rfl (ocn _) ?_
 refine Jz 9 ?_
 refine Kt (Xp (Lj (Iu (Er (Dl (Cu (Df (Du (Je1 results122 ?_)))))))))
 have hx:ixF nm 0 (F.flags.map Fg.name)=some k:=by rw[hJ,aLp hy,aJn,aEh (by assumption)]
 exact congrArg iv (by unfold nmV;rw[←hn.1];unfold aKf;rw[hP,hx];simp only[hz,aEx,Int.toNat_natCast,Option.getD_some];rfl)
 refine Jz 8 ?_
 refine Cg ⟨⟨k+1,rfl,rfl,rfl,om,(by rw[hJ,aLp hy,aJn,aEa (by assumption)])⟩,sb⟩
 refine Jz 6 ?_
 have hQ:ixF nm 0 (F.flags.map Fg.name)=none:=by rw[hJ,aFh om];rfl
 obtain⟨hl,hr⟩:=hn
 have hl2:cc.pn nm=⟨2,aJe nm c.vars 0 0,0,0⟩:=by rw[←hl];unfold aKf;rw[hP,hQ]
 obtain⟨j,hj,hjn⟩:=hr (by rw[hl2])
 rw[hl2]at hj
 have hj:aJe nm c.vars 0 0=(j:Int):=hj
 obtain⟨z,hz⟩:=exg d.vars j om
 refine Jfw [ro (some ⟨b,0,none⟩) (cT s hh F oi d),ros aMb hh.Ap hh.ps,ros Gx F.Af F.flags,ros Jl F.Ac F.comps,ros Oj c.Av c.vars,ros aLz s.Aa s.args,ros Qv s.Ag s.flags,ros aLz d.Av d.vars] [0,1,2,3,4,6,7,308,105,109,110,11] (ocs (oca 0 rfl) (ocs (oca 1 rfl) (ocs (oca 2 rfl) (ocs (oca 3 rfl) (ocs (oca 4 rfl) (ocs (oca 5 rfl) (ocs (oca 6 rfl) (ocs (oca 7 rfl) (ocn _))))))))) ?_
 refine Jz 7 ?_
 refine Fw.qf ((aIu b s hh F oi d c ht.comp ht.vl nm).mono (R':=fun v _=>v=nv j) (fun v _ h=>by rw[h,hj])) (ocs (oca 0 rfl) (ocs (oca 3 rfl) (ocs (oca 4 rfl) (ocn _)))) ?_
 refine Fw.r rfl (Ck (i:=0) rfl rfl c28 rfl (Iq (A:=some ⟨b,0,none⟩) (o:=5) (k:=1) rfl)) ?_
 refine Jz 6 ?_
 refine Xp (Lj (Iu (Er (Dl (Cu (Df (Du (Je1 results122 ?_))))))))
 exact congrArg iv (by unfold nmV;rw[hl2,hj,aEh rfl];show z=d.vars.getD (((j:Nat):Int)).toNat 0;rw[Int.toNat_natCast,aEx,hz];rfl)
def aLb(c:Cm)(cc:Cc)(n:Nat)(nm:ByteArray):Prop:=aJe nm c.vars 0 0=cc.ts nm∧∃k:Nat,cc.ts nm=(k:Int)∧k<n
inductive GdE(N T:ByteArray→Prop):PE→Prop
 |leaf (op:Nat) (nm:ByteArray) (n:Int) (h:1≤op∧op≤4):GdE N T ⟨op,nm,n,[]⟩
 |name (nm:ByteArray) (n:Int) (h:N nm):GdE N T ⟨5,nm,n,[]⟩
 |size (nm:ByteArray) (n:Int) (h:T nm):GdE N T ⟨8,nm,n,[]⟩
 |tab (op:Nat) (nm:ByteArray) (n:Int) (a:PE) (ho:op=6∨op=7) (h:T nm) (ha:GdE N T a):GdE N T ⟨op,nm,n,[a]⟩
 |un (op:Nat) (nm:ByteArray) (n:Int) (a:PE) (ho:op=9∨op=10) (ha:GdE N T a):GdE N T ⟨op,nm,n,[a]⟩
 |bin (op:Nat) (nm:ByteArray) (n:Int) (a b:PE) (ho:11≤op∧op≤23) (ha:GdE N T a) (hb:GdE N T b):GdE N T ⟨op,nm,n,[a,b]⟩
theorem aLf{N T:ByteArray→Prop}{e x:PE}(h:GdE N T e)(hx:x∈e.args):GdE N T x:=by
 cases h with
 |leaf=>cases hx
 |name=>cases hx
 |size=>cases hx
 |tab _ _ _ a _ _ ha=>rw[aEr.1 hx];exact ha
 |un _ _ _ a _ ha=>rw[aEr.1 hx];exact ha
 | bin _ _ _ a b _ ha hb=>
   rcases aEi.1 hx with rfl|hx
   ·exact ha
   ·rw[aEr.1 hx];exact hb
theorem GdE.at{N T:ByteArray→Prop}{e:PE}(h:GdE N T e):(1≤e.op∧e.op≤23)∧e.args.length≤2∧(e.op=5→N e.name)∧(e.op=6∨e.op=7∨e.op=8→T e.name)∧(e.op=6∨e.op=7∨e.op=9∨e.op=10→e.args.length=1)∧(11≤e.op→e.args.length=2):=by
 cases h with
 |leaf op nm n h=>exact⟨by show 1≤op∧op≤23;omega,by show 0≤2;omega,fun k=>by have k:op=5:=k;omega,fun k=>by have k:op=6∨op=7∨op=8:=k;omega,fun k=>by have k:op=6∨op=7∨op=9∨op=10:=k;omega,fun k=>by have k:11≤op:=k;omega⟩
 |name nm n h=>exact⟨by show 1≤5∧5≤23;decide,by show 0≤2;decide,fun _=>h,fun k=>by revert k;show 5=6∨5=7∨5=8→_;omega,fun k=>by revert k;show 5=6∨5=7∨5=9∨5=10→_;omega,fun k=>by revert k;show 11≤5→_;omega⟩
 |size nm n h=>exact⟨by show 1≤8∧8≤23;decide,by show 0≤2;decide,fun k=>by revert k;show 8=5→_;omega,fun _=>h,fun k=>by revert k;show 8=6∨8=7∨8=9∨8=10→_;omega,fun k=>by revert k;show 11≤8→_;omega⟩
 |tab op nm n a ho h ha=>exact⟨by show 1≤op∧op≤23;omega,by show 1≤2;decide,fun k=>by have k:op=5:=k;omega,fun _=>h,fun _=>rfl,fun k=>by have k:11≤op:=k;omega⟩
 |un op nm n a ho ha=>exact⟨by show 1≤op∧op≤23;omega,by show 1≤2;decide,fun k=>by have k:op=5:=k;omega,fun k=>by have k:op=6∨op=7∨op=8:=k;omega,fun _=>rfl,fun k=>by have k:11≤op:=k;omega⟩
 |bin op nm n a b ho ha hb=>exact⟨by show 1≤op∧op≤23;omega,aEu _,fun k=>by have k:op=5:=k;omega,fun k=>by have k:op=6∨op=7∨op=8:=k;omega,fun k=>by have k:op=6∨op=7∨op=9∨op=10:=k;omega,fun _=>rfl⟩
theorem aIz(c:Cc)(s:Sm)(d:Dv)(e:Ex):evE c s d e.pure=evO c s d e.op e.name e.n (aIs c s d (Cv e.args)):=by rw[Fu,evE]
theorem aJu(c:Cc)(s:Sm)(d:Dv){l:List Ex}{k:Nat}{x:Ex}(hx:l[k]?=some x):aIs c s d (Cv (l.take (k+1)))=aIs c s d (Cv (l.take k))++[evE c s d x.pure]:=by
 rw[Cf hx,Bz,Bz,aEq,aIv,aIv,aEq];rfl
theorem aJg{l:List Int}{k:Nat}{z:Int}(h:l[k]?=some z):l.getD k 0=z:=by rw[aEx,h];rfl
def GE(hh:Hd)(F:Fl)(c:Cm)(cc:Cc)(mv nt:Nat):PE→Prop:=GdE (aKi hh F c cc mv) (aLb c cc nt)
theorem GE.mem{hh:Hd}{F:Fl}{c:Cm}{cc:Cc}{mv nt:Nat}{e x:Ex}(h:GE hh F c cc mv nt e.pure)(hx:x∈e.args):GE hh F c cc mv nt x.pure:=
 aLf h (by rw[Fu];show x.pure∈Cv e.args;rw[Bz];exact aEv.2 ⟨x,hx,rfl⟩)
theorem aKt(b:Nat)(s:Sm)(hh:Hd)(F:Fl)(oi:Nat)(d:Dm)(c:Cm)(cc:Cc)(ht:TrE s hh F c oi)(hgd:∀t∈d.val.tabs,Good t)(e:Ex)(hg:GE hh F c cc d.vars.length d.tabs.length e.pure)(ih:∀x∈e.args,GE hh F c cc d.vars.length d.tabs.length x.pure→Dz 74 [pv b, .agg (Dk x).toArray] [ro (some ⟨b,0,none⟩) (cT s hh F oi d),ros aMb hh.Ap hh.ps,ros Gx F.Af F.flags,ros Jl F.Ac F.comps,ros Oj c.Av c.vars,ros aLz s.Aa s.args,ros Qv s.Ag s.flags,ros aLz d.Av d.vars,ros Tb.cells d.At d.tabs,De Be (d.tabs.map Tb.ar),all (x.kids Dk)] (fun v _=>v=iv (evE cc s d.val x.pure))):
    Dz 74 [pv b, .agg (Dk e).toArray] [ro (some ⟨b,0,none⟩) (cT s hh F oi d),ros aMb hh.Ap hh.ps,ros Gx F.Af F.flags,ros Jl F.Ac F.comps,ros Oj c.Av c.vars,ros aLz s.Aa s.args,ros Qv s.Ag s.flags,ros aLz d.Av d.vars,ros Tb.cells d.At d.tabs,De Be (d.tabs.map Tb.ar),all (e.kids Dk)] (fun v _=>v=iv (evE cc s d.val e.pure)):=by
 obtain⟨hop,hal,hgn,hgt,hg1,hg2⟩:(1≤e.op∧e.op≤23)∧e.args.length≤2∧(e.op=5→aKi hh F c cc d.vars.length e.name)∧(e.op=6∨e.op=7∨e.op=8→aLb c cc d.tabs.length e.name)∧(e.op=6∨e.op=7∨e.op=9∨e.op=10→e.args.length=1)∧(11≤e.op→e.args.length=2):=by
  have h:=GdE.at hg
  rw[Fu]at h
  have hl:(Cv e.args).length=e.args.length:=by rw[Bz,aEg]
  dsimp only at h
  rw[hl]at h
  exact h
 refine Am func74 ntmps74 fun w0=>?_
 refine Js (To.g (Jbo fun b3=>?_))
 refine Jz 10 ?_
 refine To.one 11 rfl (ros Dk e.A e.args) rfl (Re e) (Jz 8 ?_)
 refine Cz (aLz) 2 1 (Cw (fun u g mz ρ Γ=>∃(Al:OA) (ql:Nat) (L:List Int) (k:Nat),ρ=[u 0,u 3,(5,vs Al L ql),u 13,u 14,(15,nv k)]∧Γ=[ro (some ⟨b,0,none⟩) (cT s hh F oi d),g 4,g 5,g 6,g 7,g 8,g 9,g 10,g 11,g 12,g 2,g 1,g 13,rows aLz 2 1 Al ql L]∧mz=e.args.length-k∧(k≤e.args.length)∧(L=aIs cc s d.val (Cv (e.args.take k)))) ⟨⟨none,0,([]:List Int),0,rfl,rfl,rfl,om,rfl⟩,sb⟩ ?_)
 rintro mz _ _ ⟨Al,ql,L,k,rfl,rfl,rfl,hk,hL⟩
 have hLl:L.length≤e.args.length:=by rw[hL,aIv,aEg,Bz,aEg,aEe];omega
 refine Jz 6 ?_
 refine Jcp rfl ?_ ?_<;>intro k16
 obtain⟨x,hx⟩:=exg e.args k om
 refine Jz 8 ?_
 refine Jal fun b7=>?_
 refine Jz 3 ?_
 refine Db 13 rfl (x.kids Dk) (Ex.lax Dk x) (Sz hx) (Jz 4 ?_)
 refine Jvf (ih x (mog hx) (hg.mem (mog hx))) (by show owns (x.kids Dk)++[]=[];rw[(Ex.lax Dk x).owns];rfl) (ocs (oca 2 rfl) (ocs (oca 3 rfl) (ocs (oca 4 rfl) (ocs (oca 5 rfl) (ocs (oca 6 rfl) (ocs (oca 7 rfl) (ocs (oca 8 rfl) (ocs (oca 9 rfl) (ocs (oca 10 rfl) (ocs (oca 11 rfl) (ocs (oca 0 rfl) (ocn _)))))))))))) ?_
 refine Eg [iv (evE cc s d.val x.pure)] fun b23=>?_
 refine Jge rfl rfl rfl (Bg Cy (i:=16) (j:=0) (el:=(evE cc s d.val x.pure)) rfl s28 rfl rfl rfl rfl rfl om om) ?_
 rintro _ _ ⟨A24,q24,rfl,rfl⟩
 refine Jz 9 ?_
 refine Cg ⟨⟨A24,q24,(L++[(evE cc s d.val x.pure)]),k+1,rfl,rfl,rfl,om,(by rw[aJu cc s d.val hx,hL])⟩,sb⟩
 refine Jz 7 ?_
 have hLl:L.length=e.args.length:=by rw[hL,aIv,aEg,Bz,aEg,aEe];omega
 rw[aEm om]at hL
 refine Jz 12 ?_
 refine Jcp rfl ?_ ?_<;>intro k28
 refine Jz 10 ?_
 refine Pz (Iw (Fy (Gu (Jk (Kt (Xp (Lj (Iu (Er (Dl (Cu (Df (Du (Je1 results74 ?_))))))))))))))
 exact congrArg iv (by rw[aIz,←hL];unfold evO;(repeat (first|rw[aEh om]|rw[aEa om]))<;>first|rfl|(simp[tru, *];done))
 refine Jz 7 ?_
 refine Jcp rfl ?_ ?_<;>intro k32
 refine Jsp (Jt (Gm (congrArg (fun b=>some (Value.bool b)) (aEk k32)) (Jz 5 ?_)))
 refine Jvf (Qj (decide (((e.op:Nat):Int)=2))) rfl (ocn _) ?_
 refine Jz 6 ?_
 refine Pz (Iw (Fy (Gu (Jk (Kt (Xp (Lj (Iu (Er (Dl (Cu (Df (Du (Je1 results74 ?_))))))))))))))
 exact congrArg iv (by rw[aIz,←hL];unfold evO;(repeat (first|rw[aEh om]|rw[aEa om]))<;>first|rfl|(simp[tru, *];done))
 refine Jz 5 ?_
 refine Jcp rfl ?_ ?_<;>intro k32_2
 refine Jz 5 ?_
 refine Jvf (Qj (decide (((e.op:Nat):Int)=2))) rfl (ocn _) ?_
 refine Jz 6 ?_
 refine Pz (Iw (Fy (Gu (Jk (Kt (Xp (Lj (Iu (Er (Dl (Cu (Df (Du (Je1 results74 ?_))))))))))))))
 exact congrArg iv (by rw[aIz,←hL];unfold evO;(repeat (first|rw[aEh om]|rw[aEa om]))<;>first|rfl|(simp[tru, *];done))
 refine Jz 6 ?_
 refine Jcp rfl ?_ ?_<;>intro k39
 refine Jz 6 ?_
 refine Jr (Ck (i:=0) rfl rfl c2 rfl (Iq (A:=some ⟨b,0,none⟩) (o:=1) (k:=1) rfl)) ?_
 refine Jz 6 ?_
 refine Pz (Iw (Fy (Gu (Jk (Kt (Xp (Lj (Iu (Er (Dl (Cu (Df (Du (Je1 results74 ?_))))))))))))))
 exact congrArg iv (by rw[aIz,←hL];unfold evO;(repeat (first|rw[aEh om]|rw[aEa om]))<;>first|rfl|(simp[tru, *];done))
 refine Jz 6 ?_
 refine Jcp rfl ?_ ?_<;>intro k46
 refine Jz 5 ?_
 refine Jvf (aLa b s hh F oi d c cc ht e.name (hgn om)) rfl (ocs (oca 0 rfl) (ocs (oca 1 rfl) (ocs (oca 2 rfl) (ocs (oca 3 rfl) (ocs (oca 4 rfl) (ocs (oca 5 rfl) (ocs (oca 6 rfl) (ocs (oca 7 rfl) (ocn _))))))))) ?_
 refine Jz 6 ?_
 refine Pz (Iw (Fy (Gu (Jk (Kt (Xp (Lj (Iu (Er (Dl (Cu (Df (Du (Je1 results74 ?_))))))))))))))
 exact congrArg iv (by rw[aIz,←hL];unfold evO;(repeat (first|rw[aEh om]|rw[aEa om]))<;>first|rfl|(simp[tru, *];done))
 refine Jz 6 ?_
 refine Jcp rfl ?_ ?_<;>intro k52
 refine Js ?_
 obtain⟨hts,j,hj,hjn⟩:=hgt om
 obtain⟨t,ht2⟩:=exg d.tabs j om
 have htm:=mog ht2
 have htl:t.l.length≤1000000:=by have:=hgd t.l (aEv.2 ⟨t,htm,rfl⟩);have:=this.len;omega
 have hL1:=hg1 om
 obtain⟨z,hz⟩:=exg L 0 om
 refine Jfw [ro (some ⟨b,0,none⟩) (cT s hh F oi d),ros aMb hh.Ap hh.ps,ros Gx F.Af F.flags,ros Jl F.Ac F.comps,ros Oj c.Av c.vars,ros aLz s.Aa s.args,ros Qv s.Ag s.flags,ros aLz d.Av d.vars,ros Tb.cells d.At d.tabs,De Be (d.tabs.map Tb.ar),box b3 (Dk e) 220,rows aLz 2 1 Al ql L] [0,1,2,3,4,6,7,12,108,309,105,110,111,113,114,315,16,17,18,19,20] (ocs (oca 0 rfl) (ocs (oca 1 rfl) (ocs (oca 2 rfl) (ocs (oca 3 rfl) (ocs (oca 4 rfl) (ocs (oca 5 rfl) (ocs (oca 6 rfl) (ocs (oca 7 rfl) (ocs (oca 8 rfl) (ocs (oca 9 rfl) (ocs (oca 10 rfl) (ocs (oca 13 rfl) (ocn _))))))))))))) ?_
 refine Jz 9 ?_
 refine Fw.qf ((aIu b s hh F oi d c ht.comp ht.vl e.name).mono (R':=fun v _=>v=nv j) (fun v _ h=>by rw[h,hts,hj])) (ocs (oca 0 rfl) (ocs (oca 3 rfl) (ocs (oca 4 rfl) (ocn _)))) ?_
 refine Fw.r rfl (Ck (i:=0) rfl rfl c57 rfl (Iq (A:=some ⟨b,0,none⟩) (o:=6) (k:=1) rfl)) ?_
 refine Jz 4 ?_
 refine Fw.qf (fP t.A t.q t.l z om) (ocs (dB 9 rfl (Ou ht2 Tb.ar)) (ocn _)) ?_
 refine Jz 16 ?_
 refine Pz (Iw (Fy (Gu (Jk (Kt (Xp (Lj (Iu (Er (Dl (Cu (Df (Du (Je1 results74 ?_))))))))))))))
 have hgd2:d.val.tabs.getD (cc.ts e.name).toNat []=t.l:=by rw[hj,Int.toNat_natCast,aEx];show((d.tabs.map Tb.l)[j]?).getD []=t.l;rw[aEp,ht2];rfl
 exact congrArg iv (by rw[aIz,←hL];unfold evO;(repeat (first|rw[aEh om]|rw[aEa om]))<;>(rw[hgd2];rw[aJg hz]))
 refine Jz 6 ?_
 refine Jcp rfl ?_ ?_<;>intro k74
 refine Js ?_
 obtain⟨hts,j,hj,hjn⟩:=hgt om
 obtain⟨t,ht2⟩:=exg d.tabs j om
 have htm:=mog ht2
 have htl:t.l.length≤1000000:=by have:=hgd t.l (aEv.2 ⟨t,htm,rfl⟩);have:=this.len;omega
 have hL1:=hg1 om
 obtain⟨z,hz⟩:=exg L 0 om
 refine Jfw [ro (some ⟨b,0,none⟩) (cT s hh F oi d),ros aMb hh.Ap hh.ps,ros Gx F.Af F.flags,ros Jl F.Ac F.comps,ros Oj c.Av c.vars,ros aLz s.Aa s.args,ros Qv s.Ag s.flags,ros aLz d.Av d.vars,ros Tb.cells d.At d.tabs,De Be (d.tabs.map Tb.ar),box b3 (Dk e) 220,rows aLz 2 1 Al ql L] [0,1,2,3,4,6,7,12,108,309,105,110,111,113,114,315,16,17,18,19,20] (ocs (oca 0 rfl) (ocs (oca 1 rfl) (ocs (oca 2 rfl) (ocs (oca 3 rfl) (ocs (oca 4 rfl) (ocs (oca 5 rfl) (ocs (oca 6 rfl) (ocs (oca 7 rfl) (ocs (oca 8 rfl) (ocs (oca 9 rfl) (ocs (oca 10 rfl) (ocs (oca 13 rfl) (ocn _))))))))))))) ?_
 refine Jz 9 ?_
 refine Fw.qf ((aIu b s hh F oi d c ht.comp ht.vl e.name).mono (R':=fun v _=>v=nv j) (fun v _ h=>by rw[h,hts,hj])) (ocs (oca 0 rfl) (ocs (oca 3 rfl) (ocs (oca 4 rfl) (ocn _)))) ?_
 refine Fw.r rfl (Ck (i:=0) rfl rfl c57 rfl (Iq (A:=some ⟨b,0,none⟩) (o:=6) (k:=1) rfl)) ?_
 refine Jz 4 ?_
 refine Fw.qf (fP t.A t.q t.l z om) (ocs (dB 9 rfl (Ou ht2 Tb.ar)) (ocn _)) ?_
 refine Jz 10 ?_
 refine Jvf (Qj ((Fp t.l z).isSome)) rfl (ocn _) ?_
 refine Jz 6 ?_
 refine Pz (Iw (Fy (Gu (Jk (Kt (Xp (Lj (Iu (Er (Dl (Cu (Df (Du (Je1 results74 ?_))))))))))))))
 have hgd2:d.val.tabs.getD (cc.ts e.name).toNat []=t.l:=by rw[hj,Int.toNat_natCast,aEx];show((d.tabs.map Tb.l)[j]?).getD []=t.l;rw[aEp,ht2];rfl
 exact congrArg iv (by rw[aIz,←hL];unfold evO;(repeat (first|rw[aEh om]|rw[aEa om]))<;>(rw[hgd2];rw[aJg hz]))
 refine Jz 6 ?_
 refine Jcp rfl ?_ ?_<;>intro k97
 refine Js ?_
 obtain⟨hts,j,hj,hjn⟩:=hgt om
 obtain⟨t,ht2⟩:=exg d.tabs j om
 have htm:=mog ht2
 have htl:t.l.length≤1000000:=by have:=hgd t.l (aEv.2 ⟨t,htm,rfl⟩);have:=this.len;omega
 refine Jfw [ro (some ⟨b,0,none⟩) (cT s hh F oi d),ros aMb hh.Ap hh.ps,ros Gx F.Af F.flags,ros Jl F.Ac F.comps,ros Oj c.Av c.vars,ros aLz s.Aa s.args,ros Qv s.Ag s.flags,ros aLz d.Av d.vars,ros Tb.cells d.At d.tabs,De Be (d.tabs.map Tb.ar),box b3 (Dk e) 220,rows aLz 2 1 Al ql L] [0,1,2,3,4,6,7,108,309,105,110,111,12,13] (ocs (oca 0 rfl) (ocs (oca 1 rfl) (ocs (oca 2 rfl) (ocs (oca 3 rfl) (ocs (oca 4 rfl) (ocs (oca 5 rfl) (ocs (oca 6 rfl) (ocs (oca 7 rfl) (ocs (oca 8 rfl) (ocs (oca 9 rfl) (ocs (oca 10 rfl) (ocs (oca 13 rfl) (ocn _))))))))))))) ?_
 refine Jz 8 ?_
 refine Fw.qf ((aIu b s hh F oi d c ht.comp ht.vl e.name).mono (R':=fun v _=>v=nv j) (fun v _ h=>by rw[h,hts,hj])) (ocs (oca 0 rfl) (ocs (oca 3 rfl) (ocs (oca 4 rfl) (ocn _)))) ?_
 refine Fw.r rfl (Ck (i:=0) rfl rfl c57 rfl (Iq (A:=some ⟨b,0,none⟩) (o:=6) (k:=1) rfl)) ?_
 refine Jz 9 ?_
 refine Pz (Iw (Fy (Gu (Jk (Kt (Xp (Lj (Iu (Er (Dl (Cu (Df (Du (Je1 results74 ?_))))))))))))))
 have hgd2:d.val.tabs.getD (cc.ts e.name).toNat []=t.l:=by rw[hj,Int.toNat_natCast,aEx];show((d.tabs.map Tb.l)[j]?).getD []=t.l;rw[aEp,ht2];rfl
 exact congrArg iv (by rw[aIz,←hL];unfold evO;(repeat (first|rw[aEh om]|rw[aEa om]))<;>(rw[hgd2]))
 refine Jz 6 ?_
 refine Jcp rfl ?_ ?_<;>intro k112
 refine Js ?_
 have hL1:=hg1 om
 obtain⟨z,hz⟩:=exg L 0 om
 refine Jz 4 ?_
 refine Jr (eO rfl rfl) ?_
 refine Jz 6 ?_
 refine Pz (Iw (Fy (Gu (Jk (Kt (Xp (Lj (Iu (Er (Dl (Cu (Df (Du (Je1 results74 ?_))))))))))))))
 exact congrArg iv (by rw[aIz,←hL];unfold evO;(repeat (first|rw[aEh om]|rw[aEa om]))<;>(rw[aJg hz];simp[unV, *]))
 refine Jz 6 ?_
 refine Jcp rfl ?_ ?_<;>intro k118
 refine Js ?_
 have hL1:=hg1 om
 obtain⟨z,hz⟩:=exg L 0 om
 refine Jz 5 ?_
 refine Jvf (Qj (decide (z=0))) rfl (ocn _) ?_
 refine Jz 6 ?_
 refine Pz (Iw (Fy (Gu (Jk (Kt (Xp (Lj (Iu (Er (Dl (Cu (Df (Du (Je1 results74 ?_))))))))))))))
 exact congrArg iv (by rw[aIz,←hL];unfold evO;(repeat (first|rw[aEh om]|rw[aEa om]))<;>(rw[aJg hz];simp[unV, *]))
 refine Jz 4 ?_
 have hL2:=hg2 om
 obtain⟨z,hz⟩:=exg L 0 om
 obtain⟨z2,hz2⟩:=exg L 1 om
 refine Jfw [ro (some ⟨b,0,none⟩) (cT s hh F oi d),ros aMb hh.Ap hh.ps,ros Gx F.Af F.flags,ros Jl F.Ac F.comps,ros Oj c.Av c.vars,ros aLz s.Aa s.args,ros Qv s.Ag s.flags,ros aLz d.Av d.vars,ros Tb.cells d.At d.tabs,De Be (d.tabs.map Tb.ar),box b3 (Dk e) 220,rows aLz 2 1 Al ql L] [0,2,5,101,103,104,106,107,308,9] (ocs (oca 0 rfl) (ocs (oca 1 rfl) (ocs (oca 2 rfl) (ocs (oca 3 rfl) (ocs (oca 4 rfl) (ocs (oca 5 rfl) (ocs (oca 6 rfl) (ocs (oca 7 rfl) (ocs (oca 8 rfl) (ocs (oca 9 rfl) (ocs (oca 10 rfl) (ocs (oca 13 rfl) (ocn _))))))))))))) ?_
 refine Jz 8 ?_
 refine Fw.qf (UB ((e.op:Nat):Int) z z2 om) (ocn _) ?_
 refine Jz 4 ?_
 refine Pz (Iw (Fy (Gu (Jk (Kt (Xp (Lj (Iu (Er (Dl (Cu (Df (Du (Je1 results74 ?_))))))))))))))
 exact congrArg iv (by rw[aIz,←hL];unfold evO;(repeat (first|rw[aEh om]|rw[aEa om]))<;>(rw[aJg hz,aJg hz2]))
theorem aKa(b:Nat)(s:Sm)(hh:Hd)(F:Fl)(oi:Nat)(d:Dm)(c:Cm)(cc:Cc)(ht:TrE s hh F c oi)(hgd:∀t∈d.val.tabs,Good t):∀e:Ex,GE hh F c cc d.vars.length d.tabs.length e.pure→Dz 74 [pv b, .agg (Dk e).toArray] [ro (some ⟨b,0,none⟩) (cT s hh F oi d),ros aMb hh.Ap hh.ps,ros Gx F.Af F.flags,ros Jl F.Ac F.comps,ros Oj c.Av c.vars,ros aLz s.Aa s.args,ros Qv s.Ag s.flags,ros aLz d.Av d.vars,ros Tb.cells d.At d.tabs,De Be (d.tabs.map Tb.ar),all (e.kids Dk)] (fun v _=>v=iv (evE cc s d.val e.pure))
 |e,hg=>aKt b s hh F oi d c cc ht hgd e hg (fun x hx=>aKa b s hh F oi d c cc ht hgd x)
termination_by e=>SizeOf.sizeOf e
decreasing_by
 cases e with
 | mk op s n A q l=>
   have:=aFq (show x∈l from hx)
   simp only[Ex.mk.sizeOf_spec]
   omega
structure OkT(mv nt:Nat)(m:Int)(d:Dv):Prop where
 vars:d.vars.length=mv
 tabs:d.tabs.length=nt
 good:∀t∈d.tabs,Good t
 disk:Good d.disk
 effs:(d.effs.length:Int)+m≤d.cost+(if d.fault=true then 1 else 0)
 sends:0≤d.sends∧d.sends≤8
 disks:0≤d.disks∧d.disks+m≤d.cost
 cost:0≤d.cost∧d.cost≤200
theorem OkT.pay{mv nt:Nat}{d:Dv}(h:OkT mv nt 0 d)(hf:d.fault=false)(hc:d.cost<200):OkT mv nt 1 (pF d):=by
 have h1:=h.effs;have h2:=h.disks;have h3:=h.cost
 rw[hf,aEa (by decide)]at h1
 exact⟨h.vars,h.tabs,h.good,h.disk,by show(d.effs.length:Int)+1≤d.cost+1+(if d.fault=true then 1 else 0);rw[hf,aEa (by decide)];omega,h.sends,by show 0≤d.disks∧d.disks+1≤d.cost+1;omega,by show 0≤d.cost+1∧d.cost+1≤200;omega⟩
theorem OkT.weak{mv nt:Nat}{d:Dv}(h:OkT mv nt 1 d):OkT mv nt 0 d:=by
 have h1:=h.effs;have h2:=h.disks
 exact⟨h.vars,h.tabs,h.good,h.disk,by omega,h.sends,by omega,h.cost⟩
theorem OkT.flt{mv nt:Nat}{d:Dv}(h:OkT mv nt 0 d)(hf:d.fault=false):OkT mv nt 0 (aKq d):=by
 have h1:=h.effs
 rw[hf,aEa (by decide)]at h1
 exact⟨h.vars,h.tabs,h.good,h.disk,by show((d.effs++[Ph]).length:Int)+0≤d.cost+(if true=true then 1 else 0);rw[lap,aEh rfl];show((d.effs.length+1:Nat):Int)+0≤_;omega,h.sends,h.disks,h.cost⟩
theorem OkT.add{mv nt:Nat}{d e:Dv}{x:EfV}(h:OkT mv nt 1 d)(h1:e.effs=d.effs++[x])(h2:e.vars.length=d.vars.length)(h3:e.tabs=d.tabs)(h4:Good e.disk)(h5:e.cost=d.cost)(h6:e.fault=d.fault)(h7:0≤e.sends∧e.sends≤8)(h8:e.disks=d.disks∨e.disks=d.disks+1):OkT mv nt 0 e:=by
 have h9:=h.effs;have h10:=h.disks
 refine⟨h2.trans h.vars,by rw[h3];exact h.tabs,by rw[h3];exact h.good,h4,?_,h7,by omega,by rw[h5];exact h.cost⟩
 rw[h1,h5,h6,lap]
 show((d.effs.length+1:Nat):Int)+0≤_
 omega
theorem OkT.sent{mv nt:Nat}{d:Dv}(h:OkT mv nt 1 d)(hf:d.fault=false)(e:EfV):OkT mv nt 0 (aIt d e):=by
 unfold aIt
 have h1:=h.sends
 by_cases h8:d.sends=8
 ·rw[aEh h8];exact h.weak.flt hf
 ·rw[aEa h8];exact h.add rfl rfl rfl h.disk rfl rfl (by show 0≤d.sends+1∧d.sends+1≤8;omega) (.inl rfl)
theorem OkT.sto{mv nt:Nat}{d:Dv}(h:OkT mv nt 1 d)(s:Sm)(k v:Int):OkT mv nt 0 (aKy s d k v):=
 h.add rfl rfl rfl (by show Good (if aIw s d=true then d.disk else Oq d.disk k v);split;exact h.disk;exact h.disk.put k v) rfl rfl h.sends (.inr rfl)
theorem OkT.fet{mv nt:Nat}{d:Dv}(h:OkT mv nt 1 d)(s:Sm)(i:Nat)(k:Int):OkT mv nt 0 (aJj s d i k):=by
 unfold aJj
 split
 ·exact h.add rfl rfl rfl h.disk rfl rfl h.sends (.inr rfl)
 ·exact h.add rfl (aEj ..) rfl h.disk rfl rfl h.sends (.inr rfl)
theorem OkT.one{mv nt:Nat}{c:Cc}{d:Dv}(h:OkT mv nt 1 d)(hf:d.fault=false)(k:Nat)(nm hd:ByteArray)(l:List Int):OkT mv nt 0 (aJf c d k nm hd l):=by
 have hw:=h.weak
 have hg:∀j,Good (d.tabs.getD j []):=fun j=>by
  rw[aEx]
  cases e:d.tabs[j]? with
  |none=>exact⟨List.Pairwise.nil,aEw _⟩
  |some t=>exact h.good t (mog e)
 have hs:∀j t,Good t→∀u∈d.tabs.set j t,Good u:=fun j t ht u hu=>by
  rcases List.mem_or_eq_of_mem_set hu with h1|h1
  ·exact h.good u h1
  ·rw[h1];exact ht
 have ht:∀j t,Good t→OkT mv nt 0 {d with tabs:=d.tabs.set j t}:=fun j t g=>⟨hw.vars,(aEj ..).trans hw.tabs,hs j t g,hw.disk,hw.effs,hw.sends,hw.disks,hw.cost⟩
 unfold aJf
 split
 ·exact⟨(aEj ..).trans hw.vars,hw.tabs,hw.good,hw.disk,hw.effs,hw.sends,hw.disks,hw.cost⟩
 split
 ·exact ht _ _ ((hg _).put _ _)
 split
 ·exact ht _ _ ((hg _).del _)
 split
 ·exact h.sent hf _
 split
 ·exact h.sent hf _
 · have h1:=hw.effs
   exact⟨hw.vars,hw.tabs,hw.good,hw.disk,by rw[hf,aEa (by decide)]at h1;show(d.effs.length:Int)+0≤d.cost+(if true=true then 1 else 0);rw[aEh rfl];omega,hw.sends,hw.disks,hw.cost⟩
theorem Bd.ok{mv nt:Nat}{c:Cc}{s:Sm}{l:List PS}{d d':Dv}(h:Bd c s l d d'):OkT mv nt 0 d→OkT mv nt 0 d':=by
 induction h with
 |nil=>exact id
 |fin=>exact id
 |poor x r d h hc=>exact fun k=>k.flt h
 |one k nm hd es r d d' h hc hk h2 ih=>exact fun o=>ih ((o.pay h hc).one h _ _ _ _)
 |ife nm hd a t e r d d1 d' h hc h1 h2 ih1 ih2=>exact fun o=>ih2 (ih1 (o.pay h hc).weak)
 |whF nm hd a t r d d' h hc hv h2 ih=>exact fun o=>ih (o.pay h hc).weak
 |whT nm hd a t r d d1 d' h hc hv h1 h2 ih1 ih2=>exact fun o=>ih2 (ih1 (o.pay h hc).weak)
 |sto nm hd a b e r d d1 d' h hc h1 h2 ih1 ih2=>exact fun o=>ih2 (ih1 ((o.pay h hc).sto s _ _))
 |fet nm hd a e r d d1 d' h hc h1 h2 ih1 ih2=>exact fun o=>ih2 (ih1 ((o.pay h hc).fet s _ _))
theorem Bd.up{c:Cc}{s:Sm}{l:List PS}{d d':Dv}(h:Bd c s l d d'):d.cost≤d'.cost:=by
 have p:∀{d e:Dv},(pF d).cost≤e.cost→d.cost≤e.cost:=fun{d e} h=>by have h:d.cost+1≤e.cost:=h;omega
 induction h with
 |nil=>exact Int.le_refl _
 |fin=>exact Int.le_refl _
 |poor=>exact Int.le_refl _
 |one k nm hd es r d d' h hc hk h2 ih=>rw[aJh]at ih;exact p ih
 |ife nm hd a t e r d d1 d' h hc h1 h2 ih1 ih2=>exact p (Int.le_trans ih1 ih2)
 |whF nm hd a t r d d' h hc hv h2 ih=>exact p ih
 |whT nm hd a t r d d1 d' h hc hv h1 h2 ih1 ih2=>exact p (Int.le_trans ih1 ih2)
 |sto nm hd a b e r d d1 d' h hc h1 h2 ih1 ih2=>exact p (Int.le_trans ih1 ih2)
 |fet nm hd a e r d d1 d' h hc h1 h2 ih1 ih2=>rw[aJl]at ih1;exact p (Int.le_trans ih1 ih2)
def arK(k n:Nat):Prop:=(k=1∨k=3∨k=4∨k=5∨k=9→n=1)∧(k=2∨k=8→n=2)∧(k=6→n≤4)∧(k=7→1≤n∧n≤5)∧(k=10→n=0)
inductive GdS(E:PE→Prop)(V T H:ByteArray→Prop)(S:ByteArray→ByteArray→Prop):PS→Prop
 |mk (k:Nat) (nm hd:ByteArray) (es:List PE) (t e:List PS) (hk:1≤k∧k≤10) (ha:arK k es.length) (hV:k=1∨k=9→V nm) (hT:k=2∨k=3→T nm) (hS:k=6→S nm hd) (hH:k=7→H hd) (hE:∀x∈es,E x) (ht:∀x∈t,GdS E V T H S x) (he:∀x∈e,GdS E V T H S x) (h2:k≠4→k≠5→t=[]) (h3:k≠4→k≠8→k≠9→e=[]):GdS E V T H S ⟨k,nm,hd,es,t,e⟩
def aLg(c:Cm)(cc:Cc)(n:Nat)(nm:ByteArray):Prop:=aJe nm c.vars 0 0=cc.vs nm∧∃k:Nat,cc.vs nm=(k:Int)∧k<n
def aLq(F:Fl)(cc:Cc)(nm hd:ByteArray):Prop:=∃(to h:Nat) (x:Cm),F.comps[to]?=some x∧(∀(j:Nat) (y:Cm),F.comps[j]?=some y→(y.name=nm↔j=to))∧ixF hd 0 (hnames (x.vers.map Vs.pure))=some h∧cc.tg nm hd=((to:Int),(h:Int))
def aLr(c:Cm)(cc:Cc)(hd:ByteArray):Prop:=∃h:Nat,ixF hd 0 (hnames (c.vers.map Vs.pure))=some h∧cc.ah hd=(h:Int)
def GS(hh:Hd)(F:Fl)(c:Cm)(cc:Cc)(mv nt:Nat):PS→Prop:=GdS (GE hh F c cc mv nt) (aLg c cc mv) (aLb c cc nt) (aLr c cc) (aLq F cc)
section
variable{hh:Hd}{F:Fl}{c:Cm}{cc:Cc}{mv nt:Nat}{x:St}
structure GsX(hh:Hd)(F:Fl)(c:Cm)(cc:Cc)(mv nt:Nat)(x:St):Prop where
 kind:1≤x.kind∧x.kind≤10
 ar:arK x.kind x.exprs.length
 v:x.kind=1∨x.kind=9→aLg c cc mv x.name
 t:x.kind=2∨x.kind=3→aLb c cc nt x.name
 s:x.kind=6→aLq F cc x.name x.hand
 h:x.kind=7→aLr c cc x.hand
 e:∀y∈x.exprs,GE hh F c cc mv nt y.pure
 thn:∀y∈x.thn,GS hh F c cc mv nt y.pure
 els:∀y∈x.els,GS hh F c cc mv nt y.pure
 t0:x.kind≠4→x.kind≠5→Ba x.thn=[]
 e0:x.kind≠4→x.kind≠8→x.kind≠9→Ba x.els=[]
theorem GS.at(h:GS hh F c cc mv nt x.pure):GsX hh F c cc mv nt x:=by
 have e:=Nh x
 obtain⟨p,hp⟩:∃p,p=x.pure:=⟨_,rfl⟩
 rw[←hp]at h e
 have me:∀{y:Ex},y∈x.exprs→y.pure∈Cv x.exprs:=fun{y} hy=>by rw[Bz];exact aEv.2 ⟨y,hy,rfl⟩
 have ms:∀{l:List St} {y:St},y∈l→y.pure∈Ba l:=fun{l y} hy=>by rw[Je];exact aEv.2 ⟨y,hy,rfl⟩
 cases h with
 | mk k nm hd es t el hk ha hV hT hS hH hE ht he h2 h3=>
   simp only[PS.mk.injEq]at e
   obtain⟨rfl,rfl,rfl,rfl,rfl,rfl⟩:=e
   exact⟨hk,by rw[Bz,aEg]at ha;exact ha,hV,hT,hS,hH,fun y hy=>hE _ (me hy),fun y hy=>ht _ (ms hy),fun y hy=>he _ (ms hy),h2,h3⟩
end
def StD(c:Cc)(s:Sm)(x:PS)(d d':Dv):Prop:=∀d0 r e,d0.fault=false→d0.cost<200→pF d0=d→Bd c s r d' e→Bd c s (x::r) d0 e
section
variable{c:Cc}{s:Sm}{x:St}{d d':Dv}
theorem ev1{l:List Ex}{L:List Int}{z:Int}(h:L=aIs c s d (Cv l))(hl:l.length=1)(hz:L[0]?=some z):∃a,Cv l=[a]∧evE c s d a=z:=by
 match l,hl with
 |[a],_=>exact⟨a.pure,rfl,by rw[h]at hz;exact aEn hz⟩
theorem ev2{l:List Ex}{L:List Int}{z z2:Int}(h:L=aIs c s d (Cv l))(hl:l.length=2)(hz:L[0]?=some z)(hz2:L[1]?=some z2):∃a b,Cv l=[a,b]∧evE c s d a=z∧evE c s d b=z2:=by
 match l,hl with
 |[a,b],_=>exact⟨a.pure,b.pure,rfl,by rw[h]at hz;exact aEn hz,by rw[h]at hz2;exact aEn hz2⟩
theorem StD.one{L:List Int}(hL:L=aIs c s d (Cv x.exprs))(hk:x.kind=1∨x.kind=2∨x.kind=3∨x.kind=6∨x.kind=7∨x.kind=10)(ht:Ba x.thn=[])(he:Ba x.els=[])(h:d'=aJf c d x.kind x.name x.hand L):StD c s x.pure d d':=fun d0 r e h1 h2 h3 h4=>by
 subst h3 h hL
 rw[Nh,ht,he]
 exact .one _ _ _ _ _ _ _ h1 h2 hk h4
theorem StD.ife{L:List Int}{z:Int}(hL:L=aIs c s d (Cv x.exprs))(hk:x.kind=4)(hl:x.exprs.length=1)(hz:L[0]?=some z)(h:Bd c s (if z=0 then Ba x.els else Ba x.thn) d d'):StD c s x.pure d d':=fun d0 r e h1 h2 h3 h4=>by
 subst h3
 obtain⟨a,ha,hv⟩:=ev1 hL hl hz
 rw[Nh,hk,ha]
 exact .ife _ _ _ _ _ _ _ _ _ h1 h2 (by rw[hv];exact h) h4
theorem StD.sto{L:List Int}{z z2:Int}(hL:L=aIs c s d (Cv x.exprs))(hk:x.kind=8)(hl:x.exprs.length=2)(hz:L[0]?=some z)(hz2:L[1]?=some z2)(ht:Ba x.thn=[])(h:Bd c s (if aIw s d=true then Ba x.els else []) (aKy s d z z2) d'):StD c s x.pure d d':=fun d0 r e h1 h2 h3 h4=>by
 subst h3
 obtain⟨a,b,ha,hv,hv2⟩:=ev2 hL hl hz hz2
 rw[Nh,hk,ha,ht]
 exact .sto _ _ _ _ _ _ _ _ _ h1 h2 (by rw[hv,hv2];exact h) h4
theorem StD.fet{L:List Int}{z:Int}{j:Nat}(hL:L=aIs c s d (Cv x.exprs))(hk:x.kind=9)(hl:x.exprs.length=1)(hz:L[0]?=some z)(hj:c.vs x.name=(j:Int))(ht:Ba x.thn=[])(h:Bd c s (if aIw s d=true then Ba x.els else []) (aJj s d j z) d'):StD c s x.pure d d':=fun d0 r e h1 h2 h3 h4=>by
 subst h3
 obtain⟨a,ha,hv⟩:=ev1 hL hl hz
 rw[Nh,hk,ha,ht]
 exact .fet _ _ _ _ _ _ _ _ h1 h2 (by rw[hv,hj,Int.toNat_natCast];exact h) h4
theorem aKu{l:List St}{i:Nat}(hx:l[i]?=some x):(Ba l).drop i=x.pure::(Ba l).drop (i+1):=by
 rw[Je,dog (by rw[aEp,hx];rfl)]
end
section
variable{c:Cc}{s:Sm}{y:PS}{r:List PS}{g d1:Dv}{K:Dv→Prop}{x:St}{a:Ex}
theorem Bd.halt{l:List PS}(h:g.fault=true):Bd c s l g g:=by
 cases l with
 |nil=>exact .nil _
 |cons a r=>exact .fin _ _ _ h
theorem aLm(hf:g.fault=true)(h:∀w,Bd c s (y::r) g w→K w):∀w,Bd c s r g w→K w:=fun w hw=>by
 obtain rfl:=hw.done hf;exact h _ (.fin _ _ _ hf)
theorem aKo(hf:g.fault=false)(hc:g.cost=200)(h:∀w,Bd c s (y::r) g w→K w):∀w,Bd c s r (aKq g) w→K w:=fun w hw=>by
 obtain rfl:=hw.done rfl;exact h _ (.poor _ _ _ hf hc)
theorem aLs(hf:g.fault=false)(hc:g.cost<200)(h1:StD c s y (pF g) d1)(h:∀w,Bd c s (y::r) g w→K w):∀w,Bd c s r d1 w→K w:=fun w hw=>h w (h1 g r w hf hc rfl hw)
theorem aJv(hk:x.kind=5)(hl:x.exprs.length=1)(ha:x.exprs[0]?=some a)(he:Ba x.els=[]):x.pure=⟨5,x.name,x.hand,[a.pure],Ba x.thn,[]⟩:=by
 rw[Nh,hk,he]
 have e:x.exprs=[a]:=by
  match x.exprs,hl,ha with
  |[b],_,h=>rw[show b=a from aEn h]
 rw[e];rfl
theorem aLn(hf:g.fault=false)(hc:g.cost<200)(hk:x.kind=5)(hl:x.exprs.length=1)(ha:x.exprs[0]?=some a)(he:Ba x.els=[])(hv:evE c s (pF g) a.pure=0)(h:∀w,Bd c s (x.pure::r) g w→K w):∀w,Bd c s r (pF g) w→K w:=fun w hw=>h w (by
 rw[aJv hk hl ha he];exact .whF _ _ _ _ _ _ _ hf hc hv hw)
theorem aLo(hf:g.fault=false)(hc:g.cost<200)(hk:x.kind=5)(hl:x.exprs.length=1)(ha:x.exprs[0]?=some a)(he:Ba x.els=[])(hv:evE c s (pF g) a.pure≠0)(h1:Bd c s (Ba x.thn) (pF g) d1)(h:∀w,Bd c s (x.pure::r) g w→K w):∀w,Bd c s (x.pure::r) d1 w→K w:=fun w hw=>h w (by
 rw[aJv hk hl ha he]at hw⊢;exact .whT _ _ _ _ _ _ _ _ hf hc hv h1 hw)
theorem aKp(h:g.cost<200):YS g=pF g:=aEa om
theorem aJq(h:¬g.cost<200):YS g=aKq g:=aEh om
end
end Go.Proofs.YtlihklladkagpaaGreatDoor

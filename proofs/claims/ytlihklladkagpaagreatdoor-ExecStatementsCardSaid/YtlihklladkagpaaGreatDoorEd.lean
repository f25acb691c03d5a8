/- Own text. -/
import Derived.Test.YtlihklladkagpaaGreatDoorE1
import Derived.Test.YtlihklladkagpaaGreatDoorEc
import Derived.Test.YtlihklladkagpaaGreatDoorXk
import Derived.Test.YtlihklladkagpaaGreatDoorXm
import Derived.Lib.LaidTab
set_option maxHeartbeats 12000000
set_option maxRecDepth 100000
set_option linter.unusedVariables false
set_option linter.unusedSimpArgs false
namespace Go.Proofs.YtlihklladkagpaaGreatDoor
open Go.Proofs.Tryz
open Go.RowKit Go.Flow Go.Mem Go.Sep Go.In
theorem OE{c:Ct}{np n:Nat}:Each c np (fun x=>Fq x (c.ints+1) c.tables c.flags=true)∧LY n c.ints (fun x=>Fq x (c.ints+1) c.tables c.flags=true):=by
 refine⟨⟨fun k _ _=>?_,fun op ho=>?_,fun k hk=>?_,fun k hk=>?_,fun k hk=>?_,fun k hk=>?_,fun op ht ho=>?_,fun to h k h1 h2 h3=>?_,fun h k h1 h2=>?_⟩,⟨fun op t ho ht=>?_,fun t ht=>?_,fun k t hk ht=>?_⟩⟩
 ·simp[Fq]
 ·unfold Fq;rw[aEa (by dsimp only;omega),aEa (by dsimp only;omega),aEa (by dsimp only;omega)]
 ·simp[Fq];omega
 ·simp[Fq]
 ·simp[Fq];omega
 ·simp[Fq];omega
 ·unfold Fq;rw[aEa (by dsimp only;omega),aEa (by dsimp only;omega),aEh (by dsimp only;omega)];exact aEk (by dsimp only;omega)
 ·simp[Fq]
 ·simp[Fq]
 ·unfold Fq;rw[aEa (by dsimp only;omega),aEa (by dsimp only;omega),aEa (by dsimp only;omega)]
 ·simp[Fq]
 ·simp[Fq];omega
theorem YP{i t:Nat}(hi:i≤3)(ht:t≤1):nV (varsOf i t)=i+1∧nT (varsOf i t)=t:=by
 have h:∀i,i<4→∀t,t<2→nV (varsOf i t)=i+1∧nT (varsOf i t)=t:=by decide+kernel
 exact h i om t om
theorem aDr{F:Fl}(h:Ku F.pure){ci:Nat}{c:Cm}(hc:F.comps[ci]?=some c){v:Vs}(hv:v∈c.vers){x:Hd}(hx:x∈v.l):∀i∈Gh F c x,Fq i (nV c.vars) (nT c.vars) F.flags.length=true:=by
 obtain⟨ct,ar,ok⟩:=h.okC (Oo hc)
 have hgv:=ok.vers v.pure (aEv.2 ⟨v,hv,rfl⟩)
 obtain⟨k,hk⟩:=aFt hx
 have gh:=hgv.2.2 k x.pure (by show(v.l.map Hd.pure)[k]?=_;rw[aEp,hk];rfl)
 obtain⟨np,hnp,hps,hst⟩:=gh.ps
 have hnp2:np≤2:=(ok.ok.each ar (mog ok.arr)).2.2 np (mog hnp)
 have hps:x.ps=nms 112 np:=hps
 have hst:∀s∈Ba x.body,StE ct np 3 s:=hst
 have his:(ccR F.pure c.name c.vars (nms 112 np)).Is ct np:=ok.isR hnp2
 have fe:=OE (c:=ct) (np:=np) (n:=(Gh F c x).length)
 have e1:Gh F c x=cB (ccR F.pure c.name c.vars (nms 112 np)) (Ba x.body) 0:=by show cB (ccR F.pure c.name c.vars x.ps) _ _=_;rw[hps]
 have key:=Wd (Q:=fun i=>Fq i (ct.ints+1) ct.tables ct.flags=true) (n:=(Gh F c x).length) (Ba x.body) 0 (cc:=ccR F.pure c.name c.vars (nms 112 np)) (fun s hs p hp=>(hst s hs).all ok.ok fe.1 fe.2 his p hp) (by rw[←e1];omega)
 rw[←e1]at key
 have hvs:c.vars=varsOf ct.ints ct.tables:=ok.vars
 have hn:=YP ok.ok.ints.2 ok.ok.tables
 have hfl:F.flags.length=ct.flags:=by
  have h1:=congrArg List.length (show F.flags.map Fg.name=nms 102 ct.flags from ok.flags)
  rwa[aEg,Dq]at h1
 rw[hvs,hn.1,hn.2,hfl]
 exact key
theorem YQ{F:Fl}(hG:Ku F.pure){c:Cm}{k v:Nat}{s:ByteArray}(hc:F.comps[k]?=some c)(hv:1≤v∧v≤c.vers.length)(h:(Ei s none (c.vers.take v)).isSome=true):∀i∈(pU F c v s).l,Fq i (nV c.vars) (nT c.vars) F.flags.length=true:=by
 obtain⟨x,hx⟩:=Option.isSome_iff_exists.1 h
 have e:pU F c v s=⟨true,x.ps.length,(Et (Gh F c x)).1,Gh F c x⟩:=by rw[OD hv,hx]
 obtain⟨v',hv',hxm⟩:=kM hG hc hx
 rw[e]
 exact aDr hG hc hv' hxm
theorem he2:QR[2]?=some ⟨28,8,0,0⟩:=rfl
theorem YR{l:List Ef}{e:EfV}(h:l.map Ef.val=[e]):∃e0,l=[e0]∧e0.k=e.k:=by
 cases l with
 |nil=>simp at h
 | cons e0 l=>cases l with
   |nil=>simp at h;exact⟨e0,rfl,by rw[←h];rfl⟩
   |cons e1 l=>simp at h
theorem UA:Nl (Cl.sm (⟨none,0,[],0,none,0,[],0,none,0,[]⟩:Cl) exC) 1048576 (d0G [5] ([]:List (List (Int×Int))) [])=⟨[105],[],[],[Ph],200,[],1,0,0,true⟩:=by decide+kernel
theorem OG(A Av:OA)(q:Nat):Dz 12 [.agg #[iv 0,iv 2,vs A exC q], .agg #[vs Av ([5]:List Int) 1,nz,nz], .agg #[nz,iv 0,nz,iv 0,nz]] [ros Ins.cells A exC,ros aLz Av ([5]:List Int),ros Tb.cells none ([]:List Tb),De Be (([]:List Tb).map Tb.ar),ros Be none ([]:List (Int×Int)),ros aLz none ([]:List Int),ros Qv none ([]:List Bool),ros aLz none ([]:List Int),Kn] (fun v Γ'=>∃d':Dm,v= .tuple #[.agg #[vs d'.Av d'.vars d'.qv,vs d'.At d'.tabs d'.qt,vs d'.dk.A d'.dk.l d'.dk.q,vs d'.Ae d'.effs d'.qe,iv d'.cost],iv 0]∧Γ'=[rows aLz 2 1 d'.Av d'.qv d'.vars,rows Ef.cells 86 8 d'.Ae d'.qe d'.effs]∧d'.val=Nl (Cl.sm (⟨none,0,[],0,none,0,[],0,none,0,[]⟩:Cl) exC) 1048576 (d0G [5] ([]:List (List (Int×Int))) [])):=
 dI (vG 0 2 A q exC (⟨Av,1,[5],none,0,[],⟨none,0,[]⟩⟩:Sx) (⟨none,0,[],0,none,0,[],0,none,0,[]⟩:Cl) EJ (by decide) rfl EK (show 1≤1000000∧0≤1000000 by decide) (aEw _) ⟨Int.le_refl _,by decide⟩ (fun y hy=>by cases hy) ⟨List.Pairwise.nil,aEw _⟩ (fun y hy=>by cases hy) (aEu _)) fun v Γ' h=>by
  obtain⟨d',h1,rfl,hv,_⟩:=h
  exact⟨_,_,⟨d',h1,rfl,hv⟩,List.Perm.cons _ (aEl (l₁:=[_,_,_]) (l₂:=[_]))⟩
theorem vH:
    Dz 10 [] [Kn] (fun v _=>v= .bool true):=by
 refine Am func10 ntmps10 fun w0=>?_
 refine Jz 7 ?_
 refine Jr (.bd [.int .u8 29,iv 0,iv 0,iv 0]) ?_
 refine Jr (.bd [.int .u8 1,iv 0,iv 0,iv 1]) ?_
 refine Jr (.bd [.int .u8 28,iv 8,iv 0,iv 0]) ?_
 refine Jr (.bd [.int .u8 29,iv 0,iv 0,iv 0]) ?_
 refine Jr (.bd [.int .u8 2,iv 0,iv 0,iv 0]) ?_
 refine Jr (.bd [.int .u8 1,iv 0,iv 0,iv 1]) ?_
 refine Jr (.bd [.int .u8 14,iv 0,iv 0,iv 0]) ?_
 refine Jr (.bd [.int .u8 24,iv 0,iv 0,iv 0]) ?_
 refine Jr (.bd [.int .u8 27,iv 0,iv 0,iv 0]) ?_
 refine Eg [.int .u8 29,iv 0,iv 0,iv 0, .int .u8 1,iv 0,iv 0,iv 1, .int .u8 28,iv 8,iv 0,iv 0, .int .u8 29,iv 0,iv 0,iv 0, .int .u8 2,iv 0,iv 0,iv 0, .int .u8 1,iv 0,iv 0,iv 1, .int .u8 14,iv 0,iv 0,iv 0, .int .u8 24,iv 0,iv 0,iv 0, .int .u8 27,iv 0,iv 0,iv 0] fun b13=>?_
 refine Jas [rows Ins.cells 116 4 (some ⟨b13,0,none⟩) 9 QR,Kn] rfl (Jr (.bd [iv 0,iv 2, .slice (some ⟨b13,0,none⟩) 9 9]) ?_)
 refine Jal fun b1=>?_
 refine Jz 7 ?_
 refine Jr (Ga (l:=QR) (i:=1) (j:=2) rfl rfl rfl s41 rfl he2) ?_
 refine Jz 1 ?_
 refine To.u (Up.store (i:=1) rfl rfl rfl c3 rfl rfl (bB (size:=4) (n:=9) (off:=9) (xs:=QR.flatMap Ins.cells) (ds:=exC.flatMap Ins.cells) (by decide) (by simp) rfl)) ?_
 refine Jz 3 ?_
 refine Jas [box b1 [iv 0,iv 2, .slice (some ⟨b13,0,none⟩) 9 9] 43,rows Ins.cells 116 4 (some ⟨b13,0,none⟩) 9 exC,Kn] rfl (Mg (c:=ros Tb.cells none ([]:List Tb)) rfl rfl (fun w=> .inl rfl) (dC (enc:=Be) (Mg (c:=ros Be none ([]:List (Int×Int))) rfl rfl (fun w=> .inl rfl) (Mg (c:=ros aLz none ([]:List Int)) rfl rfl (fun w=> .inl rfl) (Mg (c:=ros Qv none ([]:List Bool)) rfl rfl (fun w=> .inl rfl) (Jz 2 ?_))))))
 refine Eg [iv 5] fun b21=>?_
 refine Jr (.bd [.slice (some ⟨b21,0,none⟩) 1 1,nz,nz]) ?_
 refine Jr (.bd [nz,iv 0,nz,iv 0,nz]) ?_
 refine Jqf (OG (some ⟨b13,0,none⟩) (some ⟨b21,0,none⟩) 9) rfl (ocs (Ht 7 rfl) (ocs (Ht 0 rfl) (ocs (oca 5 rfl) (ocs (oca 4 rfl) (ocs (oca 3 rfl) (ocs (oca 2 rfl) (ocs (oca 1 rfl) (ocs (oca 2 rfl) (ocs (oca 8 rfl) (ocn _)))))))))) ?_
 rintro _ _ ⟨d',rfl,rfl,hv⟩
 refine⟨rfl,?_⟩
 refine Jz 3 ?_
 refine Jal fun b2=>?_
 refine Jz 5 ?_
 rw[UA]at hv
 have hr1:(⟨[105],[],[],[Ph],200,[],1,0,0,true⟩:Dv).vars=[105]:=rfl
 have hr2:(⟨[105],[],[],[Ph],200,[],1,0,0,true⟩:Dv).cost=200:=rfl
 have hr3:(⟨[105],[],[],[Ph],200,[],1,0,0,true⟩:Dv).effs=[Ph]:=rfl
 have hvars:d'.vars=[105]:=by have:=congrArg Dv.vars hv;simpa[Dm.val]using this.trans hr1
 have hcost:d'.cost=200:=by have:=congrArg Dv.cost hv;simpa[Dm.val]using this.trans hr2
 obtain⟨e0,hef,hk⟩:=YR (by have:=congrArg Dv.effs hv;exact this.trans hr3)
 have hk:e0.k=5:=hk
 rw[hvars,hcost,hef]
 refine Jz 19 ?_
 refine Jr (Ga (i:=1) (j:=0) rfl rfl rfl s28 rfl (show[(105:Int)][0]?=some 105 from rfl)) ?_
 refine Jr (Ck (i:=1) rfl rfl c2 rfl (Dc (rwg Cy (show[(105:Int)][0]?=some 105 from rfl)) rfl)) ?_
 refine Jz 11 ?_
 refine Jr (Ga (i:=2) (j:=0) rfl rfl rfl s68 rfl (show[e0][0]?=some e0 from rfl)) ?_
 refine Jz 1 ?_
 refine Jr (Ck (i:=2) rfl rfl c84 rfl (gvt (f:=0) (rwg Zq (show[e0][0]?=some e0 from rfl)) rfl)) ?_
 refine Jz 6 ?_
 refine Je1 results10 ?_
 exact congrArg Value.bool (aEk hk)
theorem aLt:∀i<4,∀t<2,∀k<i,aJe (nm 120 k) (varsOf i t) 0 0=(k:Int):=by decide+kernel
theorem aLu:∀i<4,∀t<2,aJe nB0 (varsOf i t) 0 0=(i:Int):=by decide+kernel
theorem aLv:∀i<4,aJe nT0 (varsOf i 1) 0 0=0:=by decide+kernel
section
variable{F:Fl}{c:Cm}{ct:Ct}{ar:List Nat}{oi np:Nat}{x:Hd}
theorem aLd{nm':ByteArray}(ok:OkC F.pure oi c.pure ct ar)(h1:nm'∉nms 112 np)(h2:nm'∉nms 102 ct.flags):aKf (nms 112 np) (F.flags.map Fg.name) c.vars nm'=⟨2,aJe nm' c.vars 0 0,0,0⟩:=by
 unfold aKf
 rw[Kv h1,show F.flags.map Fg.name=nms 102 ct.flags from ok.flags,Kv h2]
theorem aLx(ok:OkC F.pure oi c.pure ct ar)(hps:x.ps=nms 112 np)(hnp:np≤2){cc:Cc}(his:cc.Is ct np):(∀k,k<ct.ints→aKi x F c cc (ct.ints+1) (nm 120 k))∧aKi x F c cc (ct.ints+1) nB0∧(∀k,k<np→aKi x F c cc (ct.ints+1) (nm 112 k))∧(∀k,k<ct.flags→aKi x F c cc (ct.ints+1) (nm 102 k))∧(0<ct.tables→aLb c cc ct.tables nT0)∧(∀k,k<ct.ints→aLg c cc (ct.ints+1) (nm 120 k))∧aLg c cc (ct.ints+1) nB0:=by
 have hi:=ok.ok.ints
 have hf:=ok.ok.flags
 have ht:=ok.ok.tables
 have hv:c.vars=varsOf ct.ints ct.tables:=ok.vars
 have sx:∀k,k<ct.ints→aJe (nm 120 k) c.vars 0 0=(k:Int):=fun k hk=>by rw[hv];exact aLt _ om _ om k hk
 have sb:aJe nB0 c.vars 0 0=(ct.ints:Int):=by rw[hv];exact aLu _ om _ om
 refine⟨fun k hk=>⟨?_,fun _=>⟨k,by rw[his.ldx k hk],by omega⟩⟩,⟨?_,fun _=>⟨ct.ints,by rw[his.ldb],by omega⟩⟩,fun k hk=>⟨?_,fun h=>?_⟩,fun k hk=>⟨?_,fun h=>?_⟩,fun h0=>⟨?_,0,?_,h0⟩,fun k hk=>⟨?_,k,his.vsx k hk,by omega⟩,⟨?_,ct.ints,his.vsb,by omega⟩⟩
 ·rw[hps,aLd ok (Rc (by decide) (by decide) om om (by decide)) (Rc (by decide) (by decide) om om (by decide)),sx k hk,his.ldx k hk]
 ·rw[hps,aLd ok (by rw[bS];exact Rc (by decide) (by decide) om om (by decide)) (by rw[bS];exact Rc (by decide) (by decide) om om (by decide)),sb,his.ldb]
 · rw[hps,his.ldp k hk]
   unfold aKf
   rw[Tg (by decide) om hk 0,aFl]
 ·rw[his.ldp k hk]at h;exact absurd h (show¬(3:Nat)=2 by decide)
 · rw[hps,his.ldf k hk]
   unfold aKf
   rw[Kv (Rc (by decide) (by decide) om om (by decide)),show F.flags.map Fg.name=nms 102 ct.flags from ok.flags,Tg (by decide) om hk 0,aFl]
 ·rw[his.ldf k hk]at h;exact absurd h (show¬(4:Nat)=2 by decide)
 ·rw[his.ts h0,hv,show ct.tables=1 by omega];exact aLv _ om
 ·exact his.ts h0
 ·rw[sx k hk,his.vsx k hk]
 ·rw[sb,his.vsb]
theorem Kh.gd{N T:ByteArray→Prop}(h1:∀k,k<ct.ints→N (nm 120 k))(h3:∀k,k<np→N (nm 112 k))(h5:0<ct.tables→T nT0){d:Nat}{e:PE}(h:Kh ct np d e):GdE N T e:=by
 induction h with
 |num d n h=>exact .leaf _ _ _ om
 |var d k h=>exact .name _ _ (h1 k h)
 |par d k h=>exact .name _ _ (h3 k h)
 |now d=>exact .leaf _ _ _ om
 |get d e ht h ih=>exact .tab _ _ _ _ (.inl rfl) (h5 ht) ih
 |size d ht=>exact .size _ _ (h5 ht)
 |neg d e h ih=>exact .un _ _ _ _ (.inl rfl) ih
 |bin d op a b ho ha hb iha ihb=>exact .bin _ _ _ _ _ om iha ihb
theorem Pj.gd{N T:ByteArray→Prop}(h1:∀k,k<ct.ints→N (nm 120 k))(h2:N nB0)(h3:∀k,k<np→N (nm 112 k))(h4:∀k,k<ct.flags→N (nm 102 k))(h5:0<ct.tables→T nT0){d:Nat}{e:PE}(h:Pj ct np d e):GdE N T e:=by
 induction h with
 |tf d op h=>exact .leaf _ _ _ om
 |b0 d=>exact .name _ _ h2
 |flag d k h=>exact .name _ _ (h4 k h)
 |has d e ht h=>exact .tab _ _ _ _ (.inr rfl) (h5 ht) (h.gd h1 h3 h5)
 |not d e h ih=>exact .un _ _ _ _ (.inr rfl) ih
 |two d op a b ho ha hb iha ihb=>exact .bin _ _ _ _ _ om iha ihb
 |cmp d op a b ho ha hb=>exact .bin _ _ _ _ _ om (ha.gd h1 h3 h5) (hb.gd h1 h3 h5)
theorem gsS{E:PE→Prop}{V T H:ByteArray→Prop}{S:ByteArray→ByteArray→Prop}(hi:∀{d e},Kh ct np d e→E e)(ht:∀{d e},Pj ct np d e→E e)(hV:∀k,k<ct.ints→V (nm 120 k))(hVb:V nB0)(hT:0<ct.tables→T nT0)
    (hS:∀to a h n,ct.ars[to]?=some a→a[h]?=some n→S (nC to) (nm 104 h)) (hH:∀a h n,ct.ars[ct.own]?=some a→a[h]?=some n→H (nm 104 h)) (hok:ct.Ok) {d:Nat} {s:PS} (h:StE ct np d s):GdS E V T H S s:=by
 have no:∀{p:Prop},(2:Nat)=1→p:=fun h=>absurd h (by decide)
 induction h with
 |setB d e h=>exact .mk 1 _ _ _ _ _ (by decide) (by unfold arK;simp) (fun _=>hVb) (fun h=>by omega) (fun h=>by omega) (fun h=>by omega) (Yl (ht h)) (fun _ h=>by cases h) (fun _ h=>by cases h) (fun _ _=>rfl) (fun _ _ _=>rfl)
 |setX d k e hk h=>exact .mk 1 _ _ _ _ _ (by decide) (by unfold arK;simp) (fun _=>hV k hk) (fun h=>by omega) (fun h=>by omega) (fun h=>by omega) (Yl (hi h)) (fun _ h=>by cases h) (fun _ h=>by cases h) (fun _ _=>rfl) (fun _ _ _=>rfl)
 |put d a b h0 ha hb=>exact .mk 2 _ _ _ _ _ (by decide) (by unfold arK;simp) (fun h=>by omega) (fun _=>hT h0) (fun h=>by omega) (fun h=>by omega) (LW (hi ha) (hi hb)) (fun _ h=>by cases h) (fun _ h=>by cases h) (fun _ _=>rfl) (fun _ _ _=>rfl)
 |del d a h0 ha=>exact .mk 3 _ _ _ _ _ (by decide) (by unfold arK;simp) (fun h=>by omega) (fun _=>hT h0) (fun h=>by omega) (fun h=>by omega) (Yl (hi ha)) (fun _ h=>by cases h) (fun _ h=>by cases h) (fun _ _=>rfl) (fun _ _ _=>rfl)
 |ife d e t l h h1 h2 ih1 ih2=>exact .mk 4 _ _ _ _ _ (by decide) (by unfold arK;simp) (fun h=>by omega) (fun h=>by omega) (fun h=>by omega) (fun h=>by omega) (Yl (ht h)) ih1 ih2 (fun h=>absurd rfl h) (fun h=>absurd rfl h)
 |whl d e t h h1 ih1=>exact .mk 5 _ _ _ _ _ (by decide) (by unfold arK;simp) (fun h=>by omega) (fun h=>by omega) (fun h=>by omega) (fun h=>by omega) (Yl (ht h)) ih1 (fun _ h=>by cases h) (fun _ h=>absurd rfl h) (fun _ _ _=>rfl)
 | send d to h ar l ha hh hl=>
   have hn:l.length≤2:=(hok.each ar (mog ha)).2.2 _ (mog hh)
   exact .mk 6 _ _ _ _ _ (by decide) (by unfold arK;omega) (fun h=>by omega) (fun h=>by omega) (fun _=>hS _ _ _ _ ha hh) (fun h=>by omega) (fun e he=>hi (hl e he)) (fun _ h=>by cases h) (fun _ h=>by cases h) (fun _ _=>rfl) (fun _ _ _=>rfl)
 | after d h ar e l ha hh he hl=>
   have hn:l.length≤2:=(hok.each ar (mog ha)).2.2 _ (mog hh)
   exact .mk 7 _ _ _ _ _ (by decide) (by unfold arK;rw[lc1];omega) (fun h=>by omega) (fun h=>by omega) (fun h=>by omega) (fun _=>hH _ _ _ ha hh) (fun y hy=>by
    rcases aEi.1 hy with rfl|hy
    ·exact hi he
    ·exact hi (hl y hy)) (fun _ h=>by cases h) (fun _ h=>by cases h) (fun _ _=>rfl) (fun _ _ _=>rfl)
 |store d a b l ha hb hl ih=>exact .mk 8 _ _ _ _ _ (by decide) (by unfold arK;simp) (fun h=>by omega) (fun h=>by omega) (fun h=>by omega) (fun h=>by omega) (LW (hi ha) (hi hb)) (fun _ h=>by cases h) ih (fun _ _=>rfl) (fun _ h=>absurd rfl h)
 |fetch d k e l hk h hl ih=>exact .mk 9 _ _ _ _ _ (by decide) (by unfold arK;simp) (fun _=>hV k hk) (fun h=>by omega) (fun h=>by omega) (fun h=>by omega) (Yl (hi h)) (fun _ h=>by cases h) ih (fun _ _=>rfl) (fun _ _ h=>absurd rfl h)
 |stop d=>exact .mk 10 _ _ _ _ _ (by decide) (by unfold arK;simp) (fun h=>by omega) (fun h=>by omega) (fun h=>by omega) (fun h=>by omega) (fun _ h=>by cases h) (fun _ h=>by cases h) (fun _ h=>by cases h) (fun _ _=>rfl) (fun _ _ _=>rfl)
end
theorem aLw{F:Fl}(hG:Ku F.pure){oi:Nat}{c:Cm}(hc:F.comps[oi]?=some c){v:Vs}(hv:v∈c.vers){x:Hd}(hx:x∈v.l):
    (∀y∈x.body,GS x F c (ccR F.pure c.name c.vars x.ps) (nV c.vars) (nT c.vars) y.pure)∧(∀y∈Ba x.body,WfS y)∧x.ps.length≤2∧c.vars.length≤5:=by
 obtain⟨ct,ar,ok⟩:=hG.okC (Oo hc)
 have hgv:=ok.vers v.pure (aEv.2 ⟨v,hv,rfl⟩)
 obtain⟨k,hk⟩:=aFt hx
 have gh:=hgv.2.2 k x.pure (by show(v.l.map Hd.pure)[k]?=_;rw[aEp,hk];rfl)
 obtain⟨np,hnp,hps,hst⟩:=gh.ps
 have hnp2:np≤2:=(ok.ok.each ar (mog ok.arr)).2.2 np (mog hnp)
 have hps:x.ps=nms 112 np:=hps
 have hst:∀s∈Ba x.body,StE ct np 3 s:=hst
 have his:(ccR F.pure c.name c.vars (nms 112 np)).Is ct np:=ok.isR hnp2
 have hvs:c.vars=varsOf ct.ints ct.tables:=ok.vars
 have hn:=YP ok.ok.ints.2 ok.ok.tables
 have hvl:c.vars.length≤5:=by
  rw[hvs];unfold varsOf
  have:=ok.ok.ints;have:=ok.ok.tables
  simp only[lap,aEg,List.length_range,lc1,ln0];omega
 refine⟨fun y hy=>?_,fun y hy=>(hst y hy).wf ok.ok,by rw[hps,Dq];exact hnp2,hvl⟩
 rw[hps,hvs,hn.1,hn.2,←hvs]
 obtain⟨n1,n2,n3,n4,n5,n6,n7⟩:=aLx (x:=x) ok hps hnp2 his
 refine gsS (fun h=>h.gd n1 n3 n5) (fun h=>h.gd n1 n2 n3 n4 n5) n6 n7 n5 (fun to a h n h1 h2=>?_) (fun a h n h1 h2=>?_) ok.ok (hst y.pure (by rw[Je];exact aEv.2 ⟨y,hy,rfl⟩))
 · have hlt:=(aEc.1 h2).1
   have h33:=(ok.ok.each a (mog h1)).2.1
   have h3:=ok.hall to a h1
   rw[aEp]at h3
   obtain⟨pc,h4,h5⟩:=aFg.1 h3
   obtain⟨z,h6,h7⟩:∃z,F.comps[to]?=some z∧z.pure=pc:=by
    have h4:(F.comps.map Cm.pure)[to]?=some pc:=h4
    rw[aEp]at h4
    exact aFg.1 h4
   have hF3:=(uG hG).comps
   refine⟨to,h,z,h6,fun j w hw=>?_,?_,his.tg to a h n h1 h2⟩
   · obtain⟨_,_,okw⟩:=hG.okC (Oo hw)
     have e:w.name=nC j:=okw.name
     have hj:=(aEc.1 hw).1
     have ht:=(aEc.1 h6).1
     rw[e]
     exact⟨fun e=>jN om om e,fun e=>by rw[e]⟩
   · have h5:hnames (z.vers.map Vs.pure)=nms 104 a.length:=by rw[←h5,←h7];rfl
     rw[h5,Tg (by decide) om hlt 0,aFl]
 · have hlt:=(aEc.1 h2).1
   have h33:=(ok.ok.each a (mog h1)).2.1
   have ha:a=ar:=by have:=ok.arr;rw[←ok.own,h1]at this;exact aEn this
   have h5:hnames (c.vers.map Vs.pure)=nms 104 ar.length:=ok.hn
   exact⟨h,by rw[h5,←ha,Tg (by decide) om hlt 0,aFl],his.ah a h n h1 h2⟩
section
variable{c:Cc}{s t:Sm}
structure aJx(s t:Sm):Prop where
 args:s.args=t.args
 now:s.now=t.now
 flags:s.flags=t.flags
 dsk:s.dsk=t.dsk
 fail:∀z,z∈s.fail↔z∈t.fail
theorem aJx.evO(h:aJx s t)(d:Dv)(op:Nat)(nm:ByteArray)(n:Int)(l:List Int):Go.Proofs.YtlihklladkagpaaGreatDoor.evO c t d op nm n l=Go.Proofs.YtlihklladkagpaaGreatDoor.evO c s d op nm n l:=by
 unfold Go.Proofs.YtlihklladkagpaaGreatDoor.evO nmV
 rw[h.args,h.now,h.flags]
mutual
theorem aJa(h:aJx s t)(d:Dv):∀e:PE,evE c t d e=evE c s d e
 |⟨op,nm,n,l⟩=>by rw[evE,evE,aJo h d l,h.evO]
theorem aJo(h:aJx s t)(d:Dv):∀l:List PE,aIs c t d l=aIs c s d l
 |[]=>rfl
 |e::r=>by rw[aIs,aIs,aJa h d e,aJo h d r]
end
theorem aJi(h:aJx s t)(d:Dv):aIw t d=aIw s d:=by
 unfold aIw
 rw[←h.dsk]
 exact decide_eq_decide.2 (h.fail _).symm
theorem Bd.same(h:aJx s t){l:List PS}{d d':Dv}(k:Bd c s l d d'):Bd c t l d d':=by
 induction k with
 |nil=>exact .nil _
 |fin x r d h=>exact .fin _ _ _ h
 |poor x r d h hc=>exact .poor _ _ _ h hc
 |one k nm hd es r d d' h0 hc hk h2 ih=>exact .one _ _ _ _ _ _ _ h0 hc hk (by rw[aJo h];exact ih)
 |ife nm hd a t e r d d1 d' h0 hc h1 h2 ih1 ih2=>exact .ife _ _ _ _ _ _ _ _ _ h0 hc (by rw[aJa h];exact ih1) ih2
 |whF nm hd a t r d d' h0 hc hv h2 ih=>exact .whF _ _ _ _ _ _ _ h0 hc (by rw[aJa h];exact hv) ih
 |whT nm hd a t r d d1 d' h0 hc hv h1 h2 ih1 ih2=>exact .whT _ _ _ _ _ _ _ _ h0 hc (by rw[aJa h];exact hv) ih1 ih2
 |sto nm hd a b e r d d1 d' h0 hc h1 h2 ih1 ih2=>exact .sto _ _ _ _ _ _ _ _ _ h0 hc (by rw[aJa h,aJa h,aJi h];unfold aKy;rw[aJi h];exact ih1) ih2
 |fet nm hd a e r d d1 d' h0 hc h1 h2 ih1 ih2=>exact .fet _ _ _ _ _ _ _ _ h0 hc (by rw[aJa h,aJi h];unfold aJj;rw[aJi h];exact ih1) ih2
end
theorem aLi(F:Fl)(oi:Nat)(hh:Hd)(a:Sx)(cl:Cl)(c:Cm)(cc:Cc)(ht:TrE (⟨none,0,[],cl.Aa,cl.qa,cl.args,cl.now,cl.Ag,cl.qg,cl.flags,cl.dsk,cl.Af,cl.qf,cl.fail⟩:Sm) hh F c oi)(hB:aDn F)(hdsk:0≤cl.dsk∧cl.dsk≤1000000000)(hfl:cl.fail.length≤1000000)(hHn:∀y∈F.comps,(hnames (y.vers.map Vs.pure)).length≤1000)(hlow:Dy (Ba hh.body))(hll:hh.body.length≤1000)(hg:∀y∈hh.body,GS hh F c cc a.vars.length a.tabs.length y.pure)(hsm:a.vars.length≤1000000∧a.tabs.length≤1000000)(hgt:∀y∈a.tabs,Good y.l)(hgd:Good a.dk.l):
    Dz 17 [.agg (cF F []).toArray,nv oi, .agg #[.string hh.name,vs hh.Ap hh.ps hh.qp,vs hh.Ab hh.body hh.qb], .agg #[vs a.Av a.vars a.qv,vs a.At a.tabs a.qt,vs a.dk.A a.dk.l a.dk.q], .agg #[vs cl.Aa cl.args cl.qa,iv cl.now,vs cl.Ag cl.flags cl.qg,iv cl.dsk,vs cl.Af cl.fail cl.qf]] [ros aLz a.Av a.vars,ros Tb.cells a.At a.tabs,De Be (a.tabs.map Tb.ar),ros Be a.dk.A a.dk.l,ros aMb hh.Ap hh.ps,ros Gx F.Af F.flags,ros Jl F.Ac F.comps,ros Oj c.Av c.vars,ros aLz cl.Aa cl.args,ros Qv cl.Ag cl.flags,ros aLz cl.Af cl.fail,all (F.kids eR),all (lsG Dk aMc hh.Ab hh.body)] (fun v Γ'=>∃d':Dm,v= .agg #[vs d'.Av d'.vars d'.qv,vs d'.At d'.tabs d'.qt,vs d'.dk.A d'.dk.l d'.dk.q,vs d'.Ae d'.effs d'.qe,iv d'.cost]∧Γ'=[rows aLz 2 1 d'.Av d'.qv d'.vars,rows Tb.cells 58 1 d'.At d'.qt d'.tabs,De Be (d'.tabs.map Tb.ar),ros Be d'.dk.A d'.dk.l,rows Dp 131 8 d'.Ae d'.qe d'.effs,De aLz (d'.effs.map Ef.ar)]∧Bd cc (⟨none,0,[],cl.Aa,cl.qa,cl.args,cl.now,cl.Ag,cl.qg,cl.flags,cl.dsk,cl.Af,cl.qf,cl.fail⟩:Sm) (Ba hh.body) (d0G a.vars (a.tabs.map Tb.l) a.dk.l) d'.val):=by
 refine Am func17 ntmps17 fun w0=>?_
 refine Js (To.g (Jbo fun b5=>?_))
 refine Jbo fun b7=>?_
 refine Jbo fun b8=>?_
 refine Jbo fun b9=>?_
 refine Jal fun b10=>?_
 refine Jz 3 ?_
 refine Pp [box b5 (cF F []) 36,box b7 [.string hh.name,vs hh.Ap hh.ps hh.qp,vs hh.Ab hh.body hh.qb] 40,box b8 [vs a.Av a.vars a.qv,vs a.At a.tabs a.qt,vs a.dk.A a.dk.l a.dk.q] 60,box b9 [vs cl.Aa cl.args cl.qa,iv cl.now,vs cl.Ag cl.flags cl.qg,iv cl.dsk,vs cl.Af cl.fail cl.qf] 65] [⟨0,[],0⟩,⟨1,[],0⟩,⟨4,[],0⟩,⟨5,[],0⟩,⟨6,[],0⟩,⟨2,[],4⟩,⟨3,[2],0⟩,⟨7,[2],0⟩,⟨8,[2],2⟩,⟨9,[2,8],0⟩] mixed.h (by kernel_rfl) (ocs (oca 4 rfl) (ocs (oca 3 rfl) (ocs (oca 2 rfl) (ocs (oca 1 rfl) (ocn _))))) (Jz 5 ?_)
 refine Gj rfl rfl rfl rfl rfl .fc (UE a.Av a.At a.dk.A a.qv a.qt a.dk.q a.dk.l.length a.vars a.tabs hsm.1 hsm.2) rfl (ocs (oca 5 rfl) (ocs (oca 6 rfl) (ocn _))) ?_
 rintro _ _ ⟨Bv,pv,Bt,pt,rfl,rfl⟩
 refine⟨rfl,?_⟩
 refine Fw.f rfl (.bd [vs Bv a.vars pv,vs Bt a.tabs pt,vs a.dk.A a.dk.l a.dk.q,nz,iv 0]) ?_
 refine Fw.f rfl (.bd [vs cl.Aa cl.args cl.qa,iv cl.now,vs cl.Ag cl.flags cl.qg,iv cl.dsk,vs cl.Af cl.fail cl.qf,vs Bv a.vars pv,vs Bt a.tabs pt,vs a.dk.A a.dk.l a.dk.q,nz,iv 0,nz,iv 0,iv 0, .bool false, .string hh.name,vs hh.Ap hh.ps hh.qp,vs hh.Ab hh.body hh.qb, .string F.name,vs F.Af F.flags F.qf,vs F.Al F.links F.ql,vs F.Ac F.comps F.qc,nv oi]) ?_
 refine Fw.mk rfl rfl rfl rfl rfl (Mk.box rfl rfl rfl) ?_
 rintro _ _ ⟨b20,rfl,rfl⟩
 refine Jz 4 ?_
 refine Cz (Dp) 131 8 (Cz (aLz) 2 1 (dC (enc:=aLz) (Jz 4 ?_)))
 refine Jcf [3,3,3,10,10,2,0,0,7,7,7,7,7,7,7,7,7] (aJk b20 (⟨none,0,[],cl.Aa,cl.qa,cl.args,cl.now,cl.Ag,cl.qg,cl.flags,cl.dsk,cl.Af,cl.qf,cl.fail⟩:Sm) hh F oi c cc a.vars.length a.tabs.length ht hB hdsk hfl hHn hh.body hlow hh.Ab hh.qb (⟨Bv,pv,a.vars,Bt,pt,a.tabs,a.dk,none,0,[],0,none,0,[],0,0,0,false⟩:Dm) ⟨rfl,aEg ..,fun t h=>(by obtain⟨y,hy,rfl⟩:=aEv.1 h;exact hgt y hy),hgd,(by show((0:Nat):Int)+0≤0+(if false=true then 1 else 0);simp),(by show(0:Int)≤0∧(0:Int)≤8;decide),(by show(0:Int)≤0∧(0:Int)+0≤0;decide),(by show(0:Int)≤0∧(0:Int)≤200;decide)⟩ hg hll) ?_
 rintro _ _ ⟨rfl,d',rfl,hbd⟩
 refine Jz 7 ?_
 refine Jr (Ij (i:=0) (us:=[vs d'.Av d'.vars d'.qv,vs d'.At d'.tabs d'.qt,vs d'.dk.A d'.dk.l d'.dk.q,vs d'.Ae d'.effs d'.qe,iv d'.cost]) rfl rfl r81 rfl (Fh (n:=5) rfl) rfl) ?_
 refine Jz 4 ?_
 refine Gf [1,1,1,1,1,1] results17 ?_
 exact⟨d',rfl,rfl,hbd⟩
theorem UJ{a b:Sx}(h:a.val=b.val):d0G a.vars (a.tabs.map Tb.l) a.dk.l=d0G b.vars (b.tabs.map Tb.l) b.dk.l:=by
 unfold Sx.val at h
 simp only[Prod.mk.injEq]at h
 rw[h.1,h.2.1,h.2.2]
theorem aKv(p:Pl)(hp:p.Ok)(a1 a2 a3:Nat)(h1:a1<256)(h2:a2<256)(h3:a3<256)(w:Wx)(hw:w.ok)(hwf:w.flags<256):
    Dz 5 [.agg (cL p []).toArray, .agg #[.int .u8 ((a1:Nat):Int), .int .u8 ((a2:Nat):Int), .int .u8 ((a3:Nat):Int)], .agg (cW w).toArray] [all p.kids,glc,p10c,Kn,ros aLz w.Av w.vars,ros Be w.At w.tabs,ros Be w.Ad w.disk,ros aLz w.Aa w.args,ros Gw w.Af w.fail] (fun v _=>v= .bool true):=by
 refine Am func5 ntmps5 fun w0=>?_
 refine Js (To.g (Jbo fun b3=>?_))
 refine Jbo fun b4=>?_
 refine Jbo fun b5=>?_
 refine Jz 4 ?_
 refine Px 6 rfl rfl (Jz 3 ?_)
 refine Jcf [4,4,4,0] (TZ p hp a1 a2 a3 h1 h2 h3) ?_
 rintro _ _ ⟨F,c,oi,vi,s,B,m,rfl,rfl,hG,hc,hvi⟩
 refine Jz 4 ?_
 refine Jal fun b7=>?_
 refine Jz 7 ?_
 refine To.nm ?_
 obtain⟨U,hU⟩:∃z0,z0=(pU F c (vi+1) s):=⟨_,rfl⟩
 rw[←hU]
 refine To.nm ?_
 obtain⟨hd,hhd⟩:∃z0,z0=(Gz (Ei s none (c.vers.take (vi+1)))):=⟨_,rfl⟩
 rw[←hhd]
 obtain⟨is,his⟩:∃z0,z0=(Ei s none (c.vers.take (vi+1))).isSome:=⟨_,rfl⟩
 rw[←his]
 refine To.g (Jvf (vH) rfl (ocs (oca 6 rfl) (ocn _)) ?_)
 refine Jz 11 ?_
 refine Ed rfl ?_ ?_<;>intro k32
 refine Js (To.g (Jvf (vH) rfl (ocs (oca 6 rfl) (ocn _)) ?_))
 refine Jz 8 ?_
 refine Fy (Gu (Jk (Kt (Xp (Lj (Iu (Er (Dl (Cu (Df (Du (Je1 results5 ?_))))))))))))
 rfl
 refine Jz 3 ?_
 have hsk:aCi U:=by rw[hU];exact aCj hG hc ⟨by omega,by omega⟩ (by rw[←his];simpa using k32)
 have hskf:∀i∈U.l,Fq i (nV c.vars) (nT c.vars) F.flags.length=true:=by rw[hU];exact YQ hG hc ⟨by omega,by omega⟩ (by rw[←his];simpa using k32)
 obtain⟨hnv,hnt⟩:=nVT hG hc
 have hnf:=(uG hG).flags
 have hnp:=hsk.np
 obtain⟨x0,hx0⟩:=Option.isSome_iff_exists.1 (show(Ei s none (c.vers.take (vi+1))).isSome=true from by rw[←his];simpa using k32)
 have e1:hd=x0:=by rw[hhd,hx0];rfl
 have hUe:U=⟨true,hd.ps.length,(Et (Gh F c hd)).1,Gh F c hd⟩:=by rw[hU,OD ⟨by omega,by omega⟩,hx0,e1]
 obtain⟨v',hv',hxm⟩:=kM hG hc hx0
 rw[←e1]at hxm
 obtain⟨hgs,hws,hpl2,hvl⟩:=aLw hG hc hv' hxm
 have hnp2:U.np=hd.ps.length:=by rw[hUe]
 have hcode:U.l=Gh F c hd:=by rw[hUe]
 have hX:=uG hG
 have hlw:=((hX.low.vers c (mog hc)).2 v' hv').2 hd hxm
 refine Jz 12 ?_
 refine Jcf [7,7,7,7,7] (QZ w hw hwf (nV c.vars) (nT c.vars) hd.ps.length F.flags.length om om om om) ?_
 rintro _ _ ⟨a,b,Ff,qf,Fl,Ap,qp,P,Gp,qg,G,rfl,rfl,hva,hvb,hFl,hP,hG2,hcaps,hcapd⟩
 refine Jz 5 ?_
 refine Jal fun b10=>?_
 refine Jal fun b11=>?_
 refine Jal fun b12=>?_
 refine Jal fun b13=>?_
 refine Jz 7 ?_
 refine Md (Cq (Nz (Cq (JF (Cq (DX (Cq (Su (Cq (zM (Cq (rX (Cq (Sv (Cq ?_)))))))))))))))
 have hga:=vS hva om
 have hgb:=vS hvb om
 have hlv:b.vars.length=a.vars.length:=by rw[hga.1,hgb.1]
 have hlt2:b.tabs.length=a.tabs.length:=by rw[hga.2.1,hgb.2.1]
 have hab:a.val=b.val:=hva.trans hvb.symm
 have hdsk:0≤((w.before:Nat):Int)∧((w.before:Nat):Int)≤1000000000:=by have:=hw.before;omega
 have hul:=hsk.len
 have hv1:=hga.1
 have hv2:=hga.2.1
 have hPl:P.length=U.np:=by rw[hP,eZ,hnp2]
 have hGl:G.length=F.flags.length:=by rw[hG2,mP]
 have hpr:(P.length:Int)=((U.np:Nat):Int):=by rw[hPl]
 have href:∀x∈U.l,Fq x a.vars.length a.tabs.length G.length=true:=by rw[hv1,hv2,hGl];exact hskf
 refine Px 0 rfl rfl (Px 4 rfl rfl (Px 4 rfl rfl (Px 4 rfl rfl (Jz 2 ?_))))
 refine Jr (Ij (i:=20) (us:=[nv U.np,iv U.st,vs B U.l m]) rfl rfl r43 rfl (Fh (n:=3) rfl) rfl) ?_
 refine Jz 2 ?_
 refine Jcf [3,10,9,13,13,2,1,0,17] (vG ((U.np:Nat):Int) U.st B m U.l a (⟨Ap,qp,P,w.now,Gp,qg,G,((w.before:Nat):Int),Ff,qf,Fl⟩:Cl) hsk.ver om (by rw[hPl]) href ⟨by omega,by omega⟩ (by show Fl.length≤12;omega) hdsk hga.2.2.1 hga.2.2.2 hcaps hcapd) ?_
 rintro _ _ ⟨d,rfl,rfl,hrun,_⟩
 refine Jz 3 ?_
 refine Jal fun b14=>?_
 refine Jz 5 ?_
 have hsmall:=IK (c:=(⟨Ap,qp,P,w.now,Gp,qg,G,((w.before:Nat):Int),Ff,qf,Fl⟩:Cl)) (d:=d) om om hsk.ver hpr href (by show Fl.length≤12;omega) hdsk hga hrun
 have hte:TrE (⟨none,0,[],Ap,qp,P,w.now,Gp,qg,G,((w.before:Nat):Int),Ff,qf,Fl⟩:Sm) hd F c oi:=⟨hc,by omega,by show hd.ps.length=P.length;rw[hPl,hnp2],hGl.symm,by omega,by omega⟩
 refine To.one 20 rfl (ros Gx F.Af F.flags) rfl (aKx F) (To.one 21 rfl (ros Jl F.Ac F.comps) rfl (ND F) ?_)
 have hck:∀z∈c.kids eR,z∈F.kids eR:=fun z hz=>VI hc hz
 have hhk:∀z∈hd.kids eR,z∈F.kids eR:=fun z hz=>hck z (aEb _ (aEb _ (aEy.2 ⟨v',hv',aEb _ (aEy.2 ⟨hd,hxm,hz⟩)⟩)))
 refine To.one 22 rfl (ros Oj c.Av c.vars) rfl (hck _ (TE c)) (To.one 23 rfl (ros aMb hd.Ap hd.ps) rfl (hhk _ fI) (Db 24 rfl (lsG Dk aMc hd.Ab hd.body) (Dx _ _ _ _) (fun z hz=>hhk z (aEb _ hz)) (Jfw [box b14 [vs d.Av d.vars d.qv,vs d.At d.tabs d.qt,vs d.dk.A d.dk.l d.dk.q,vs d.Ae d.effs d.qe,iv d.cost] 70,box b7 (cF F [nv oi, .string (hd.name),vs hd.Ap hd.ps hd.qp,vs hd.Ab hd.body hd.qb,nv U.np,iv U.st,vs B U.l m,nv (nV c.vars),nv (nT c.vars),nv F.flags.length]) 45,box b11 [vs b.Av b.vars b.qv,vs b.At b.tabs b.qt,vs b.dk.A b.dk.l b.dk.q] 60,box b13 [vs Ap P qp,iv w.now,vs Gp G qg,nv w.before,vs Ff Fl qf] 65] [0,1,2,3,4,5,6,7,8,9,10,11,512,313,14,15] (ocs (oca 5 rfl) (ocs (oca 24 rfl) (ocs (oca 20 rfl) (ocs (oca 18 rfl) (ocn _))))) ?_)))
 refine Jz 5 ?_
 refine Fw.f rfl (Ij (i:=1) (us:=(cF F [])) rfl rfl r36 rfl (Fh (n:=4) rfl) rfl) ?_
 refine Jz 3 ?_
 refine Fw.f rfl (Ij (i:=1) (us:=[.string (hd.name),vs hd.Ap hd.ps hd.qp,vs hd.Ab hd.body hd.qb]) rfl rfl r40 rfl (Fh (n:=3) rfl) rfl) ?_
 refine Jz 2 ?_
 refine sD [17,16,20,20,1,3,2,1,11,10,9,14,0] rfl rfl rfl rfl .fc rfl (aLi F oi hd b (⟨Ap,qp,P,w.now,Gp,qg,G,((w.before:Nat):Int),Ff,qf,Fl⟩:Cl) c (ccR F.pure c.name c.vars hd.ps) hte (TH hG) hdsk (by show Fl.length≤1000000;omega) (fun y hy=>(by obtain⟨k,hk⟩:=aFt hy;have:=(YO hG hk).2;omega)) hlw.2.2 (by have:=hlw.2.1;omega) (by rw[hlv,hlt2,hv1,hv2];exact hgs) ⟨by omega,by omega⟩ hgb.2.2.1 hgb.2.2.2) ?_
 rintro _ _ ⟨e,rfl,rfl,hbd⟩
 refine⟨ocs (oca 6 rfl) (ocs (oca 18 rfl) (ocs (oca 16 rfl) (ocs (oca 14 rfl) (ocn _)))),?_⟩
 refine Fw.qf ((UI d e hsmall.1 hsmall.2.1 hsmall.2.2.1 hsmall.2.2.2).mono (R':=fun v _=>v= .bool true) (fun v _ h=>by rw[h];exact congrArg Value.bool (aEk (by rw[hrun];exact aLl (s:=Cl.sm (⟨Ap,qp,P,w.now,Gp,qg,G,((w.before:Nat):Int),Ff,qf,Fl⟩:Cl) U.l) (FE _ _ _ _) hsk.len (d:=d0G a.vars (a.tabs.map Tb.l) a.dk.l) (Bd.same (s:=(⟨none,0,[],Ap,qp,P,w.now,Gp,qg,G,((w.before:Nat):Int),Ff,qf,Fl⟩:Sm)) (t:=Cl.sm (⟨Ap,qp,P,w.now,Gp,qg,G,((w.before:Nat):Int),Ff,qf,Fl⟩:Cl) U.l) ⟨rfl,rfl,rfl,rfl,fun z=>iY.symm⟩ (by have h9:=hbd;rw[←UJ hab]at h9;exact h9)) hws hcode rfl rfl)))) (ocs (Ht 7 rfl) (ocs (Ht 8 rfl) (ocs (oca 9 rfl) (ocs (oca 10 rfl) (ocs (Ht 11 rfl) (ocs (oca 12 rfl) (ocs (Ht 0 rfl) (ocs (Ht 1 rfl) (ocs (oca 2 rfl) (ocs (oca 3 rfl) (ocs (Ht 4 rfl) (ocs (oca 5 rfl) (ocn _))))))))))))) ?_
 refine Jz 5 ?_
 refine aJd (aJc (aJb (WE (WC (wI (iA (bI (Pz (Iw (Fy (Gu (Jk (Kt (Xp (Lj (Iu (Er (Dl (Cu (Df (Du (Je1 results5 ?_))))))))))))))))))))))
 rfl
open Go.ChangeShapes Go.WideShapes Go.ChangeAt Go.RowKit Go.Flow Go.Mem Go.Sep
theorem UM{P:Program}{W:World}{name:String}{g:Nat}{cs:Array Value}(hg:P.globalNamed name=some g)(hv:W.var? P name=some cs):(varc g cs).holds W:=by
 unfold World.var? at hv
 rw[hg]at hv
 have hv2:(match W.heap[g]? with|some (.cells cs _ _)=>some cs|_=>none)=some cs:=hv
 split at hv2
 · rename_i cs' t f heq
   cases hv2
   exact⟨t,f,heq⟩
 ·cases hv2
theorem IM{W:World}(h:laidMetH prog VV W):p10c.holds W:=by
 rw[MakeChecks.laidMetH_plain _ _ _ (by kernel_rfl)]at h
 obtain⟨ps,hL,_⟩:=h
 obtain⟨_,_,_,_,_,_,_,_,_,_,hL,_⟩:=hL
 obtain⟨_,_,_,_,_,_,_,_,_,_,hL,_⟩:=hL
 obtain⟨g0,t0,cs0,f0,p0,q0,hg0,ht0,hv0,hd0,_,_⟩:=hL
 obtain rfl:=aEn ((show prog.globalNamed "internal/strconv.uint64pow10" =some 6 by kernel_rfl).symm.trans hg0)
 obtain rfl:=aEn ((show(prog.globals[6]?).map (·.type)=some 380 by kernel_rfl).symm.trans ht0)
 rw[show(Rows.laid_internal_strconv_uint64pow10:DataW Unit)=Lib.tabData .u64 Lib.pow10Tab by kernel_rfl]at hd0
 have hc:=Lib.cells_of_tab underlying380 underlying267 (by kernel_rfl) (by kernel_rfl) hd0
 have hcs:cs0=(Lib.pow10Tab.map fun z=>Value.int .u64 z).toArray:=by rw[←hc,Array.toArray_toList]
 have hv:=UM hg0 hv0
 rw[hcs]at hv
 exact hv
section
variable{H:Type}{ench:TypeId×Value→H}{w:World}{base:Nat}{spare:Nat→Bool}{held:Bool}
theorem yX{r:Reach}{b0:Nat}{v:Value}{d:DataW H}{ps:List MemPlace}(hval:Value.okWide prog w r b0 27 v)(hd:DataW.Trod ench prog w base spare held 27 v d ps):
    ∃a1 a2 a3:Nat,v= .agg #[.int .u8 ((a1:Nat):Int), .int .u8 ((a2:Nat):Int), .int .u8 ((a3:Nat):Int)]∧a1<256∧a2<256∧a3<256:=by
 simp only[Value.okWide,underlying27]at hval
 obtain⟨cs,rfl,hsz,_⟩:=hval
 obtain⟨fuel,hf⟩:=hd
 have hl:cs.toList.length=3:=by rw[Array.length_toList,hsz];kernel_rfl
 have hf2:DataW.trod ench prog w base spare held fuel 27 cs.toList=some (d,ps):=hf
 obtain⟨l⟩:=cs
 match l,hl with
 | [c0,c1,c2],_=>
   obtain⟨_,_,g0⟩:=Eh underlying27 hf2 0 _ rfl (by kernel_rfl) (c:=c0) rfl
   obtain⟨_,_,g1⟩:=Eh underlying27 hf2 1 _ rfl (by kernel_rfl) (c:=c1) rfl
   obtain⟨_,_,g2⟩:=Eh underlying27 hf2 2 _ rfl (by kernel_rfl) (c:=c2) rfl
   obtain⟨n0,e0,_,w0⟩:=DataW.trod_int underlying5 g0
   obtain⟨n1,e1,_,w1⟩:=DataW.trod_int underlying5 g1
   obtain⟨n2,e2,_,w2⟩:=DataW.trod_int underlying5 g2
   have b0:=bounds_u8 w0
   have b1:=bounds_u8 w1
   have b2:=bounds_u8 w2
   simp only[List.cons.injEq,and_true]at e0 e1 e2
   subst e0 e1 e2
   exact⟨n0.toNat,n1.toNat,n2.toNat,by simp only[Int.toNat_of_nonneg b0.1,Int.toNat_of_nonneg b1.1,Int.toNat_of_nonneg b2.1],by omega,by omega,by omega⟩
end
theorem aKl{w:World}{p:Pl}{a1 a2 a3:Nat}{x:Wx}(hp:p.Ok)(h1:a1<256)(h2:a2<256)(h3:a3<256)(hw:x.ok)(hwf:x.flags<256)(rp:(all p.kids).holds w)(r0:(ros aLz x.Av x.vars).holds w)(r1:(ros Be x.At x.tabs).holds w)(r2:(ros Be x.Ad x.disk).holds w)(r3:(ros aLz x.Aa x.args).holds w)(r4:(ros Gw x.Af x.fail).holds w)(g:oks [glc,Kn] w)(g10:p10c.holds w):
    Calls prog 5 #[.agg (cL p []).toArray, .agg #[.int .u8 ((a1:Nat):Int), .int .u8 ((a2:Nat):Int), .int .u8 ((a3:Nat):Int)], .agg x.cells.toArray] w fun e w'=>e= .returned (.bool true)∧Ext w w':=
 IZ (aKv p hp a1 a2 a3 h1 h2 h3 x hw hwf) (by show owns p.kids++[]=[];rw[(Pl.lax p).owns];rfl) (Qp rp (Qp (g _ (by simp)) (Qp g10 (Qp (g _ (by simp)) (Qp r0 (Qp r1 (Qp r2 (Qp r3 (PW r4)))))))))
end Go.Proofs.YtlihklladkagpaaGreatDoor

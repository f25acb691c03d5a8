/- Own text. -/
import Derived.Test.YtihgdnjkofpgiaaGreatDoorAn3
import Derived.Test.YtihgdnjkofpgiaaGreatDoorAn4
set_option maxHeartbeats 8000000
set_option maxRecDepth 100000
set_option linter.unusedVariables false
set_option linter.unusedSimpArgs false
namespace Go.Proofs.YtihgdnjkofpgiaaGreatDoor
open Go.Proofs.Tryz
open Go.RowKit Go.Flow Go.Mem Go.Sep Go.In
open Go.In
theorem FY:Dz 70 [.string (fT uM)] [gAc] (fun v Γ'=>∃σ,v= .tuple #[.agg #[.string ((F1 σ).name), .slice ((F1 σ).Af) ((F1 σ).flags.length) ((F1 σ).qf), .slice ((F1 σ).Al) ((F1 σ).links.length) ((F1 σ).ql), .slice ((F1 σ).Ac) ((F1 σ).comps.length) ((F1 σ).qc)],iv 0,iv 0]∧Γ'=[all (mem σ M1F)]):=(Bd.lax NS jB rfl fun c hc=>⟨gAc,aNz.2 rfl, .inr ⟨gA,rfl,hc⟩⟩).mono fun v Γ' ⟨σ,h1,h2⟩=>⟨σ,h1.trans (aGf σ),h2⟩
theorem aCp:
    Dz 40 [.string (fT uM)] [gAc,ay,ax,Gz,Xw] (fun v Γ'=>∃(fb:Nat) (X:FB) (G:List Ad),v= .tuple #[pv fb,iv 0,iv 0]∧Γ'=[all (flk fb X G)]∧Lax G∧X.F.Cap∧X.F.pure=pf1∧R1 X.pb G):=by
 refine Ba func40 ntmps40 fun w0=>?_;refine Jz 10 ?_;refine af [0] (FY) ?_;rintro _ _ ⟨σ,rfl,rfl⟩;refine Jz 4 ?_;refine ae fun b5=>?_;refine Jz 16 ?_;refine Kj (gG (c:=ro none []) rfl rfl (fun w=> .inl rfl) (Cw (Bv 0 rfl ((F1 σ).kids eX) (Fl.lax eX (F1 σ)) (aBb σ) (Jz 2 ?_))));refine af [0,2,2,2,2] (aEe (F1 σ) (aBd σ) (aGg σ) R1 (AY σ)) ?_;rintro _ _ ⟨fb,X,G,rfl,rfl,hG,hXC,hXp,hX1⟩;refine Jz 17 ?_;refine Cb (Ci (Rk (.inl rfl) results40 rfl rfl rfl ?_));exact⟨fb,X,G,rfl,rfl,hG,hXC,hXp.trans (aBc σ),hX1⟩
open Go.RowKit Go.Flow Go.Mem Go.Sep Go.In
open Go.In
theorem fZ:PFB pf1:=⟨by decide+kernel,by decide+kernel⟩
theorem aEg{X:FB}{G:List Ad}(h:R1 X.pb G):∃(A:OA) (q:Nat) (ps:List PP),PgX X G A q ps∧hnI ps 1=[fT [103],fT [107]]:=by
 obtain⟨σ,h⟩:=h;refine⟨_,_,_,⟨h,by show 2≤12;decide,fun p hp=>?_⟩,rfl⟩;simp only[aNx,aOe,aPh]at hp;rcases hp with rfl|rfl
 ·show 1≤1000;decide
 ·show 2≤1000;decide
section
variable{fb:Nat}{X:FB}{G:List Ad}(hG:Lax G)(hC:X.F.Cap)(hp:X.F.pure=pf1)(hr:R1 X.pb G)
theorem aNe(hr:R1 X.pb G):Dz 15 [pv fb,iv 1] [all (flk fb X G)] (fun v Γ'=>∃(B:OA) (r:Nat),v= .slice B 2 r∧Γ'=[rows Da 9 1 B r [fT [103],fT [107]]]):=by
 obtain⟨A,q,ps,h1,h2⟩:=aEg hr;have h3:=fU fb X G A q ps h1 1;rw[h2]at h3;exact h3
theorem aLd(hC:X.F.Cap)(hp:X.F.pure=pf1)(hr:R1 X.pb G)(v:Int)(o:oP Nat)(ho:∀ps:List PP,hnI ps 1=[fT [103],fT [107]]→fV pf1 ps 1 v 1=o):Dz 17 [pv fb,iv 1,iv v,iv 1] [all (flk fb X G)] (fun r Γ'=>r= .tuple #[nv (o.getD 0), .bool o.isSome]∧Γ'=[]):=by
 obtain⟨A,q,ps,h1,h2⟩:=aEg hr;have h3:=aCl fb X G A q ps h1 hC (by rw[hp];exact fZ) 1 v 1;rw[hp,ho ps h2]at h3;exact h3
theorem aLe:∀ps:List PP,hnI ps 1=[fT [103],fT [107]]→fV pf1 ps 1 1 1=none:=fun ps h=>by unfold fV;rw[h];decide+kernel
theorem aLf:∀ps:List PP,hnI ps 1=[fT [103],fT [107]]→fV pf1 ps 1 2 1=some 0:=fun ps h=>by unfold fV;rw[h];decide+kernel
theorem aNf(hG:Lax G)(hC:X.F.Cap)(hp:X.F.pure=pf1):Dz 12 [pv fb,iv 0,iv 1] [all (flk fb X G)] (fun r Γ'=>r= .tuple #[iv 0,bt,bt]∧Γ'=[]):=by
 have h3:=WI fb X G hG hC (by rw[hp];exact fZ) 0 1;rw[hp,show iF pf1 0 1=some (0,true) by decide+kernel]at h3;exact h3
theorem aNg(hG:Lax G)(hp:X.F.pure=pf1):Dz 24 [pv fb,iv 0,iv 1] [all (flk fb X G)] (fun r _=>r=iv 1):=by
 have h3:=KH fb X G hG (by rw[hp];exact fZ) 0 1;rw[hp,show iQ pf1 0 1=1 by decide+kernel]at h3;exact h3.mono fun _ _ h=>h.1
end
theorem FZ:Dz 40 [.string (fT xX)] [gAc] (fun v _=>v= .tuple #[.pointer none,iv 0,iv 9]):=Bd.lax PN jB rfl fun c hc=>⟨gAc,aNz.2 rfl, .inr ⟨gA,rfl,hc⟩⟩
theorem WK:
    Dz 9 [] [gAc,ay,ax,Gz,Xw] (fun v _=>v=bt):=by
 refine Ba func9 ntmps9 fun w0=>?_;refine Jz 6 ?_;refine Qb 0 rfl rfl (cz (af [0,1,1,1,1] (aCp) ?_));rintro _ _ ⟨fb,X,G,rfl,rfl,hG,hXC,hXp,hX1⟩;refine Jz 16 ?_;refine Jr (Jg rfl underlying27 rfl rfl) ?_;refine Jz 9 ?_;refine Jqf (aNe hX1) (by show owns (flk fb X G)++[]=[];rw[(Er hG).owns];rfl) (jS (lS 0 rfl) (jP _)) ?_;rintro _ _ ⟨Bn,pn,rfl,rfl⟩;refine⟨rfl,?_⟩;refine Jz 6 ?_;refine Jqf (aLd hXC hXp hX1 1 _ aLe) (by show owns (flk fb X G)++[]=[];rw[(Er hG).owns];rfl) (jS (lS 1 rfl) (jP _)) ?_;rintro _ _ ⟨rfl,rfl⟩;refine⟨rfl,?_⟩;refine Jz 10 ?_;refine Jqf (aLd hXC hXp hX1 2 _ aLf) (by show owns (flk fb X G)++[]=[];rw[(Er hG).owns];rfl) (jS (lS 1 rfl) (jP _)) ?_;rintro _ _ ⟨rfl,rfl⟩;refine⟨rfl,?_⟩;refine Jz 10 ?_;refine Jqf (aNf hG hXC hXp) (by show owns (flk fb X G)++[]=[];rw[(Er hG).owns];rfl) (jS (lS 1 rfl) (jP _)) ?_;rintro _ _ ⟨rfl,rfl⟩;refine⟨rfl,?_⟩;refine Jz 11 ?_;refine Jvf (FZ) rfl (jS (lS 2 rfl) (jP _)) ?_;refine Jz 16 ?_;refine Jr (Lh (i:=0) (j:=0) rfl rfl rfl s54 rfl (rfl:([fT [103],fT [107]]:List yB)[0]?=some (fT [103]))) ?_;refine Jr (Cq (i:=0) rfl rfl c9 rfl (Em (rwg Di (rfl:([fT [103],fT [107]]:List yB)[0]?=some (fT [103]))) rfl)) ?_;refine Jr (Jb rfl rfl rfl) ?_;refine JpT ?_;refine JgP ?_ ?_<;>intro g58;refine Jm ?_;refine Jr (Lh (i:=0) (j:=1) rfl rfl rfl s54 rfl (rfl:([fT [103],fT [107]]:List yB)[1]?=some (fT [107]))) ?_;refine Jr (Cq (i:=0) rfl rfl c9 rfl (Em (rwg Di (rfl:([fT [103],fT [107]]:List yB)[1]?=some (fT [107]))) rfl)) ?_;refine Jr (Jb rfl rfl rfl) ?_;refine JpT ?_;refine JgP ?_ ?_<;>intro g64;refine Jz 22 ?_;refine Jvf (aNg hG hXp) (by show owns (flk fb X G)++[]=[];rw[(Er hG).owns];rfl) (jS (lS 1 rfl) (jP _)) ?_;refine Jz 8 ?_;refine Ju [(0,bt),(1,pv fb),(3,iv 0),(25,bf),(4, .slice Bn 2 pn),(6,bf),(7,iv 0),(8,bt),(9,iv 0),(10,bt),(11,bt),(14,iv 9)] sb (Jt (Jrt (ak results9 ?_)));rfl;exact aOx rfl g64;exact aOx rfl g58
open Go.RowKit Go.Flow Go.Mem Go.Sep Go.In
theorem WM{P:pG}{C:Cx}{ρ:Bj}{Γ Δ E:List Ad}{R:vU→List Ad→Prop}{fn:Func}{ex:Exit}{t b n i u:Nat}{ty ty':tI}{cs:List vU}{v:vU}(is:List Nat)(hpl:Ui Γ is=some (Δ,E))(hex:ex= .ret∨ex= .normal)(hres:fn.results=#[.tmp u, .cell t ty])(hv:Sep.look ρ t=some (pv b))
    (hi:Γ[i]?=some (box b cs ty')) (ht:Ff P ty n) (hl:cs.length=n) (hu:Sep.look ρ u=some v) (h:R (.tuple #[v, .agg cs.toArray]) Δ) (hds:C.ds=[]:=by rfl):To C ρ Γ (bodyPost P fn (Fin C R) ex):=fun a w ha hp=>by
 have hr:(results fn a.tmps).run P w= .ok (.tuple #[v, .agg cs.toArray]) w:=by
  obtain⟨d,h1,h2,h3⟩:=ht;have hw:=hp.sat.each _ (sN hi);have:=run_loadVar_mid (P:=P) w b 0 ty cs d (Ji hw) h1 h2 (by rw[hl];exact h3);have he:a.tmps[t]?.getD undef=pv b:=by rw[ha.sees t _ hv];rfl
  have he2:a.tmps[u]?.getD undef=v:=by rw[ha.sees u _ hu];rfl
  simp[results,hres,he,he2,asAddr,this]
 have hq:Db C.Γ0 Δ C.w0 w:=(hp.perm (Jv hpl)).drop;rcases hex with rfl|rfl
 ·exact⟨ha.defers.trans hds,_,hr,_,Δ,rfl,h,hq⟩
 ·exact⟨ha.defers.trans hds,_,hr,_,Δ,rfl,h,hq⟩
theorem aCq(p:Pl)(hp:p.Ok):
    Dz 10 [.agg (cL p []).toArray] [all p.kids,ay,ax,Gz,Xw] (fun v Γ'=>∃(F:Fl) (fb:Nat) (X:FB) (A:OA) (q:Nat) (ps:List PP),v= .tuple #[pv fb, .agg F.cells.toArray]∧Γ'=[all (flk fb X (pgk X.pb A q ps)),all (F.kids eR)]∧Nn F.pure∧X.F.Cap∧X.F.pure=F.pure∧∃F':Fl,F'.pure=F.pure∧FR F' ps):=by
 refine Ba func10 ntmps10 fun w0=>?_;refine Js (cz (Jbo fun b1=>?_));refine Ja ?_;refine ae fun b3=>?_;refine Jz 5 ?_;refine af [2] (VN p hp) ?_;rintro _ _ ⟨F,rfl,rfl,hG⟩;refine ae fun b4=>?_;refine Jz 4 ?_;have hX:=dD hG;refine Bv 1 rfl (F.kids eR) (Fl.lax eR F) (fun z hz=>hz) (Jz 2 ?_);refine af [0] (EM F hX.low) ?_;rintro _ _ ⟨F',rfl,rfl,hCap,hpu⟩;refine af [0,4,4,4,4] (aEe F' (dD (by rw[hpu];exact hG)) hCap (fun b G=>∃(A:OA) (q:Nat) (ps:List PP),G=pgk b A q ps∧FR F' ps) ((FT F' (by rw[hpu];exact hG) (dD (by rw[hpu];exact hG)) hCap).mono fun v Γ' ⟨b,A,q,ps,h1,h2,h3⟩=>⟨b,pgk b A q ps,h1,h2,Vn b A q ps,A,q,ps,rfl,h3⟩)) ?_;rintro _ _ ⟨fb,X,G,rfl,rfl,hlx,hXC,hXp,A,q,ps,rfl,hP⟩;refine Jz 18 ?_;refine Jfw [] [0,2,101,503] (jP _) ?_;refine Jz 3 ?_;refine dh rfl rfl rfl (Cf (i:=3) rfl rfl rfl r32 rfl rfl rfl (bta rfl)) (jP _) ?_;refine Jz 3 ?_;refine WM [0,1] rfl (.inl rfl) results10 rfl (i:=3) rfl r32 rfl rfl ?_;exact⟨F,fb,X,A,q,ps,rfl,rfl,hG,hXC,hXp.trans hpu,⟨F',hpu,hP⟩⟩
theorem aCr{F:Fl}(h:Nn F.pure):PFB F.pure:=by
 have hX:=dD h;refine⟨by have:=hX.links;show F.links.length≤1000;omega,fun c hc=>?_⟩;obtain⟨x,hx,rfl⟩:=aOm.1 (show c∈F.comps.map Cm.pure from hc);have hg:=hX.comp x hx;have h1:=hg.vars;have h2:=hg.vers2;refine⟨by show x.vars.length≤1000;omega,by show(x.vers.map Vs.pure).length≤1000;rw[aNv];omega,fun v hv=>?_⟩;obtain⟨y,hy,rfl⟩:=aOm.1 (show v∈x.vers.map Vs.pure from hv);have:=(hg.ver y hy).1;show(y.l.map Hd.pure).length≤1000;rw[aNv];omega
theorem aLg{F' F:Fl}(h:F'.pure=F.pure){k:Nat}{x:Cm}(hx:F.comps[k]?=some x):∃x',F'.comps[k]?=some x'∧x'.pure=x.pure:=by
 have h1:F.pure.comps[k]?=some x.pure:=by show(F.comps.map Cm.pure)[k]?=_;rw[aOf,hx];rfl
 rw[←h]at h1;have h2:(F'.comps.map Cm.pure)[k]?=some x.pure:=h1;rw[aOf]at h2;cases h3:F'.comps[k]? with
 |none=>rw[h3]at h2;cases h2
 |some x'=>rw[h3]at h2;exact⟨x',rfl,aOj h2⟩
end Go.Proofs.YtihgdnjkofpgiaaGreatDoor

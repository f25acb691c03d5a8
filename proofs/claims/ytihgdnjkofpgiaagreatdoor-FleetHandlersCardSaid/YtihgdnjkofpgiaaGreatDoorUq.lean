/- Own text. -/
import Derived.Test.YtihgdnjkofpgiaaGreatDoorUo
set_option maxHeartbeats 8000000
set_option maxRecDepth 100000
set_option linter.unusedVariables false
namespace Go.Proofs.YtihgdnjkofpgiaaGreatDoor
open Go.Proofs.Tryz
open Go.RowKit Go.Flow Go.Mem Go.Sep Go.In
section
variable{s:yB}{n:Nat}
theorem LB{l:List Hd}(h:∀y∈l,y.name=s→y.ps.length=n){m:Nat}(e:Xg s l=some m):m=n:=by
 induction l with
 |nil=>cases e
 | cons y r ih=>
   have e1:(if y.name=s then some y.ps.length else Xg s r)=some m:=e;by_cases hy:y.name=s
   · rw[aPr hy]at e1
     rw[←aPq e1];exact h y (aPc ..) hy
   · rw[aPf hy]at e1
     exact ih (fun z hz=>h z (aPb _ hz)) e1
theorem XV{l:List Hd}(h:∀y∈l,y.name=s→y.ps.length=n):∀o:oP Hd,(∀y,o=some y→y.ps.length=n)→(Xf s o l).map (fun y=>y.ps.length)=if o.isSome then some n else Xg s l:=by
 induction l with
 | nil=>
   intro o ho;show o.map _=_;cases o with
   |none=>rfl
   |some y=>show some y.ps.length=some n;rw[ho y rfl]
 | cons y r ih=>
   intro o ho;have hr:=ih fun z hz=>h z (aPb _ hz);rw[Ux];by_cases hy:y.name=s
   · have hn:=h y (aPc ..) hy
     rw[aPr hy,hr (some y) fun z hz=>by rw[←aPq hz];exact hn];show some n=if o.isSome then some n else(if y.name=s then some y.ps.length else Xg s r);rw[aPr hy,hn];split<;>rfl
   · rw[aPf hy,hr o ho]
     show _=if o.isSome then some n else(if y.name=s then some y.ps.length else Xg s r);rw[aPf hy]
theorem XW{l:List Vs}(h:∀v∈l,∀y∈v.l,y.name=s→y.ps.length=n):∀o:oP Hd,(∀y,o=some y→y.ps.length=n)→(Lu s o l).map (fun y=>y.ps.length)=if o.isSome then some n else Xh s l:=by
 induction l with
 | nil=>
   intro o ho;show o.map _=_;cases o with
   |none=>rfl
   |some y=>show some y.ps.length=some n;rw[ho y rfl]
 | cons v r ih=>
   intro o ho;have hr:=ih fun z hz=>h z (aPb _ hz);have hv:=h v (aPc ..);have h1:=XV hv o ho;rw[sW];have h2:∀y,Xf s o v.l=some y→y.ps.length=n:=fun y hy=>by
    rw[hy]at h1;have h3:some y.ps.length=if o.isSome then some n else Xg s v.l:=h1;by_cases ho2:o.isSome=true
    ·rw[aPr ho2]at h3;exact aPq h3
    ·rw[aPf ho2]at h3;exact LB hv h3.symm
   rw[hr _ h2];show(if(Xf s o v.l).isSome then some n else Xh s r)=if o.isSome then some n else(match Xg s v.l with|some n=>some n|none=>Xh s r);have h4:(Xf s o v.l).isSome=((Xf s o v.l).map (fun y=>y.ps.length)).isSome:=by rw[Option.isSome_map]
   rw[h4,h1];by_cases ho2:o.isSome=true
   ·rw[aPr ho2,aPr ho2];rfl
   · rw[aPf ho2,aPf ho2]
     cases e:Xg s v.l with
     |none=>rfl
     |some m=>rw[LB hv e];rfl
end
theorem aEa{F:Fl}(h:Ji F.pure){ci:Nat}{c:Cm}(hc:F.comps[ci]?=some c)(s:yB):∃n,∀v∈c.vers,∀y∈v.l,y.name=s→y.ps.length=n:=by
 obtain⟨ct,ar,ok⟩:=h.okC (Uz hc);have har:=ok.ok.each ar (sN ok.arr);have key:∀v∈c.vers,∀y∈v.l,∃m np,y.name=nm 104 m∧m<200∧ar[m]?=some np∧y.ps.length=np:=fun v hv y hy=>by
  have gv:=ok.vers v.pure (aPx.2 ⟨v,hv,rfl⟩);obtain⟨k,hk⟩:=aRb hy;have gh:=gv.2.2 k y.pure (by show(v.l.map Hd.pure)[k]?=_;rw[aPs,hk];rfl);obtain⟨np,hnp,hps,_⟩:=gh.ps;have hps:y.ps=nms 112 np:=hps;have hml:=(aOz.1 hnp).1;exact⟨k,np,gh.name,by omega,hnp,by rw[hps,Dn]⟩
 by_cases hex:∃v∈c.vers,∃y∈v.l,y.name=s
 · obtain⟨v0,hv0,y0,hy0,e0⟩:=hex
   obtain⟨m0,np0,a0,b0,c0,d0⟩:=key v0 hv0 y0 hy0;refine⟨np0,fun v hv y hy e=>?_⟩;obtain⟨m,np,a,b,c1,d⟩:=key v hv y hy;have hm:m=m0:=(Po (c:=104) (d:=104) de de b b0 (by rw[←a,←a0,e,e0])).2;rw[hm,c0]at c1;rw[d,aPq c1]
 ·exact⟨0,fun v hv y hy e=>(hex ⟨v,hv,y,hy,e⟩).elim⟩
theorem LC{F:Fl}(h:Ji F.pure){ci:Nat}{c:Cm}(hc:F.comps[ci]?=some c)(s:yB)(v:Nat):(Lu s none (c.vers.take v)).map (fun y=>y.ps.length)=tT s ((c.vers.map Vs.pure).take v):=by
 obtain⟨n,hn⟩:=aEa h hc s;rw[XW (n:=n) (fun z hz=>hn z (aRc hz)) none (fun _ h=>by cases h)];show Xh s (c.vers.take v)=_;rw[gW,aSa]
theorem XX(F:Fl)(k:Nat)(x:Cm)(hx:F.comps[k]?=some x)(hcv:x.vers.length≤1000)(hvs:∀v∈x.vers,v.l.length≤100)(v h:Int)(hv:v<1∨(x.vers.length:Int)<v):
    Dz 18 [.agg (cF F []).toArray,nv k,iv v,iv h] [all (F.kids eR)] (fun v Γ'=>v= .tuple #[iv 0,bf]∧Γ'=[]):=by
 have hkl:k<F.comps.length:=(aOz.1 hx).1;have hnb:=Uy x hcv hvs;refine Ba func18 ntmps18 fun w0=>?_;refine Js (eu (Jbo fun b4=>?_));refine Jz 6 ?_;refine cu 1 rfl (ros Gm F.Ac F.comps) rfl (En (k:=eR)) (Jz 3 ?_);refine JgP ?_ ?_<;>intro g15
 first|exact aPu c15 om|exact aPu k15 om|exact aPu g15 om
 refine Jz 6 ?_;refine JgP ?_ ?_<;>intro g22
 first|exact aPu c22 om|exact aPu k22 om|exact aPu g22 om
 refine Jz 3 ?_;refine JgP ?_ ?_<;>intro g26;refine Jz 21 ?_;refine Ck (Cr (Cq (Eo (.inl rfl) results18 rfl rfl ?_)));exact⟨rfl,rfl⟩;refine Jz 12 ?_;refine aa rfl ?_ ?_<;>intro k36;refine Jz 8 ?_;refine Ck (Cr (Cq (Eo (.inl rfl) results18 rfl rfl ?_)));exact⟨rfl,rfl⟩;exact aPu hv om
theorem XY(F:Fl)(k:Nat)(x:Cm)(hx:F.comps[k]?=some x)(hcv:x.vers.length≤1000)(hvs:∀v∈x.vers,v.l.length≤100)(n:Nat)(hn:1≤n∧n≤x.vers.length)(h:Int)(hh:h<0∨((hnames (x.vers.map Vs.pure)).length:Int)≤h):
    Dz 18 [.agg (cF F []).toArray,nv k,nv n,iv h] [all (F.kids eR)] (fun v Γ'=>v= .tuple #[iv 0,bf]∧Γ'=[]):=by
 have hkl:k<F.comps.length:=(aOz.1 hx).1;have hnb:=Uy x hcv hvs;refine Ba func18 ntmps18 fun w0=>?_;refine Js (eu (Jbo fun b4=>?_));refine Jz 6 ?_;refine cu 1 rfl (ros Gm F.Ac F.comps) rfl (En (k:=eR)) (Jz 3 ?_);refine JgP ?_ ?_<;>intro g15
 first|exact aPu c15 om|exact aPu k15 om|exact aPu g15 om
 refine Jz 6 ?_;refine JgP ?_ ?_<;>intro g22
 first|exact aPu c22 om|exact aPu k22 om|exact aPu g22 om
 refine Jz 3 ?_;refine JgP ?_ ?_<;>intro g26
 first|exact aPu c26 om|exact aPu k26 om|exact aPu g26 om
 refine Jz 12 ?_;refine aa rfl ?_ ?_<;>intro k36
 first|exact aPu c36 om|exact aPu k36 om|exact aPu g36 om
 refine Jz 3 ?_;refine Cg 2 rfl (x.kids eR) (Cm.lax eR x) (Dg hx) (Jz 6 ?_);refine Jqf (Rq x hcv hvs) (by show owns (x.kids eR)++[]=[];rw[(x.lax eR).owns];rfl) (jS (lS 0 rfl) (jP _)) ?_;rintro _ _ ⟨Ah,qh,rfl,rfl⟩;refine⟨rfl,?_⟩;refine Jz 8 ?_;refine JgP ?_ ?_<;>intro g45;refine Jz 16 ?_;refine Dr (Da (Ck (Cr (Cq (Eo (.inl rfl) results18 rfl rfl ?_)))));exact⟨rfl,rfl⟩;refine Jz 7 ?_;refine aa rfl ?_ ?_<;>intro k50;refine Jz 8 ?_;refine Dr (Da (Ck (Cr (Cq (Eo (.inl rfl) results18 rfl rfl ?_)))));exact⟨rfl,rfl⟩;exact aPu hh om
theorem XZ(F:Fl)(k:Nat)(x:Cm)(hx:F.comps[k]?=some x)(hcv:x.vers.length≤1000)(hvs:∀v∈x.vers,v.l.length≤100)(n:Nat)(hn:1≤n∧n≤x.vers.length)(h:Nat)(s:yB)(hs:(hnames (x.vers.map Vs.pure))[h]?=some s):
    Dz 18 [.agg (cF F []).toArray,nv k,nv n,nv h] [all (F.kids eR)] (fun r Γ'=>r= .tuple #[nv ((Yu (Lu s none (x.vers.take n))).ps.length), .bool (Lu s none (x.vers.take n)).isSome]∧Γ'=[]):=by
 have hkl:k<F.comps.length:=(aOz.1 hx).1;have hnb:=Uy x hcv hvs;have hhl:h<(hnames (x.vers.map Vs.pure)).length:=(aOz.1 hs).1;refine Ba func18 ntmps18 fun w0=>?_;refine Js (eu (Jbo fun b4=>?_));refine Jz 6 ?_;refine cu 1 rfl (ros Gm F.Ac F.comps) rfl (En (k:=eR)) (Jz 3 ?_);refine JgP ?_ ?_<;>intro g15
 first|exact aPu c15 om|exact aPu k15 om|exact aPu g15 om
 refine Jz 6 ?_;refine JgP ?_ ?_<;>intro g22
 first|exact aPu c22 om|exact aPu k22 om|exact aPu g22 om
 refine Jz 3 ?_;refine JgP ?_ ?_<;>intro g26
 first|exact aPu c26 om|exact aPu k26 om|exact aPu g26 om
 refine Jz 12 ?_;refine aa rfl ?_ ?_<;>intro k36
 first|exact aPu c36 om|exact aPu k36 om|exact aPu g36 om
 refine Jz 3 ?_;refine Cg 2 rfl (x.kids eR) (Cm.lax eR x) (Dg hx) (Jz 6 ?_);refine Jqf (Rq x hcv hvs) (by show owns (x.kids eR)++[]=[];rw[(x.lax eR).owns];rfl) (jS (lS 0 rfl) (jP _)) ?_;rintro _ _ ⟨Ah,qh,rfl,rfl⟩;refine⟨rfl,?_⟩;refine Jz 8 ?_;refine JgP ?_ ?_<;>intro g45
 first|exact aPu c45 om|exact aPu k45 om|exact aPu g45 om
 refine Jz 7 ?_;refine aa rfl ?_ ?_<;>intro k50
 first|exact aPu c50 om|exact aPu k50 om|exact aPu g50 om
 refine Jz 3 ?_;refine Ou [] [⟨0,[],0⟩,⟨2,[],0⟩,⟨5,[],0⟩,⟨6,[],0⟩,⟨7,[],0⟩,⟨1,[],1⟩,⟨3,[],1⟩,⟨4,[],1⟩,⟨8,[],1⟩,⟨9,[],1⟩,⟨10,[],4⟩,⟨11,[10],0⟩,⟨12,[10],0⟩,⟨13,[10],0⟩,⟨14,[],2⟩,⟨15,[10,14],5⟩,⟨16,[],0⟩] mixed.h kr (jP _) (Jz 10 ?_);refine Dy rfl rfl rfl rfl rfl .fc (aDc x hcv hvs n s) (by show owns (x.kids eR)++[]=[];rw[(x.lax eR).owns];rfl) (jS (lS 1 rfl) (jP _)) ?_;rintro _ _ ⟨rfl,rfl⟩;refine⟨rfl,?_⟩;refine Jz 3 ?_;refine Fw.mk rfl rfl rfl rfl rfl (Mk.alloc rfl aNr) ?_;rintro _ _ ⟨b11,rfl,rfl⟩;refine fq rfl rfl rfl (Co (i:=0) rfl rfl rfl aKm rfl rfl rfl (bta rfl)) (jP _) ?_;refine Jz 14 ?_;refine Gr (Dr (Da (Ck (Cr (Cq (Eo (.inl rfl) results18 rfl rfl ?_))))));exact⟨rfl,rfl⟩
theorem LD{F:PF}{ps:List PP}{c v h:Int}(e:v<1∨((pcI F c).vers.length:Int)<v):Pq F ps c v h=none:=by unfold Pq;rw[aPr e]
theorem CW{F:PF}{ps:List PP}{c v h:Int}(e:h<0∨((hnI ps c).length:Int)≤h):Pq F ps c v h=none:=by
 unfold Pq;split
 ·rfl
 ·rw[Qx e]
theorem LF{F:PF}{ps:List PP}{c:Int}{n h:Nat}{s:yB}(e:1≤n∧n≤(pcI F c).vers.length)(hs:(hnI ps c)[h]?=some s):Pq F ps c (n:Int) (h:Int)=tT s ((pcI F c).vers.take n):=by
 unfold Pq;rw[aPf om,Ua,hs];rfl
theorem YA(o:oP Hd):(Yu o).ps.length=(o.map fun y=>y.ps.length).getD 0:=by cases o<;>rfl
theorem aEb(F:Fl)(hG:Ji F.pure)(ps:List PP)(k:Nat)(x:Cm)(hx:F.comps[k]?=some x)(hnm:hnI ps (k:Int)=hnames (x.vers.map Vs.pure))(v h:Int):Dz 18 [.agg (cF F []).toArray,nv k,iv v,iv h] [all (F.kids eR)] (fun r Γ'=>r= .tuple #[nv ((Pq F.pure ps k v h).getD 0), .bool (Pq F.pure ps k v h).isSome]∧Γ'=[]):=by
 have hX:=Sm hG;have hg:=hX.comp x (sN hx);have hcv:x.vers.length≤1000:=by have:=hg.vers2;omega
 have hvs:∀v∈x.vers,v.l.length≤100:=fun v hv=>by have:=(hg.ver v hv).1;omega
 have hvp:(pcI F.pure (k:Int)).vers=x.vers.map Vs.pure:=by rw[←fB,Sy hx]
 have hvl:(pcI F.pure (k:Int)).vers.length=x.vers.length:=by rw[hvp,aPg]
 by_cases hv:v<1∨(x.vers.length:Int)<v
 · rw[LD om]
   exact XX F k x hx hcv hvs v h hv
 obtain⟨n,rfl⟩:∃n:Nat,v=(n:Int):=⟨v.toNat,by omega⟩
 rcases Lv (hnames (x.vers.map Vs.pure)) h with hh|⟨m,s,rfl,hm⟩
 · rw[CW (by rw[hnm];exact hh)]
   exact XY F k x hx hcv hvs n om h hh
 · have e:Pq F.pure ps (k:Int) (n:Int) (m:Int)=(Lu s none (x.vers.take n)).map (fun y=>y.ps.length):=by
     rw[LF om (by rw[hnm];exact hm),LC hG hx,hvp]
   rw[e,←YA,Option.isSome_map];exact XZ F k x hx hcv hvs n om m s hm
theorem QS(b:Nat)(A:OA)(q:Nat)(ps:List PP)(k:Nat)(p:PP)(hp:ps[k]?=some p)(hps:ps.length≤12)(v h:Int)(hbad:v<1∨(p.us.length:Int)<v∨h<0∨(p.names.length:Int)≤h):
    Dz 22 [pv b,nv k,iv v,iv h] [all (pgk b A q ps)] (fun v Γ'=>v= .tuple #[.agg #[iv 0,iv 0,nz],bf]∧Γ'=[]):=by
 have hkp:k<ps.length:=(aOz.1 hp).1;refine Ba func22 ntmps22 fun w0=>?_;refine Js (eu (ae fun b8=>?_));refine Jz 5 ?_;refine cu 1 rfl (ro (some ⟨b,0,none⟩) [vs A ps q]) rfl (BS) (cu 2 rfl (ros Tz A ps) rfl (BU) (Jz 2 ?_));refine Jr (Fh rfl underlying66 rfl rfl) ?_;refine Jz 4 ?_;refine JgP ?_ ?_<;>intro g18;exact aPu g18 om;refine Jz 4 ?_;refine Jr (Cu (i:=1) rfl rfl dO rfl (Eb (A:=some ⟨b,0,none⟩) (o:=0) (k:=1) rfl)) ?_;refine Jz 5 ?_;refine aa rfl ?_ ?_<;>intro k26;exact aPu k26 om;refine Jz 7 ?_;refine Jr (Cu (i:=1) rfl rfl dO rfl (Eb (A:=some ⟨b,0,none⟩) (o:=0) (k:=1) rfl)) ?_;refine Jz 3 ?_;refine ae fun b10=>?_;refine Jz 8 ?_;refine JgP ?_ ?_<;>intro g37;refine Jz 34 ?_;refine Jr (.bd [iv 0,iv 0,nz]) ?_;refine Jz 6 ?_;refine Jy [] rfl (.inl rfl) results22 rfl (i:=3) rfl r63 rfl rfl ?_;exact⟨rfl,rfl⟩;refine Jz 6 ?_;refine JgP ?_ ?_<;>intro g44;refine Jz 27 ?_;refine Jr (.bd [iv 0,iv 0,nz]) ?_;refine Jz 6 ?_;refine Jy [] rfl (.inl rfl) results22 rfl (i:=3) rfl r63 rfl rfl ?_;exact⟨rfl,rfl⟩;refine Jz 3 ?_;refine JgP ?_ ?_<;>intro g48;refine Jz 23 ?_;refine Jr (.bd [iv 0,iv 0,nz]) ?_;refine Jz 6 ?_;refine Jy [] rfl (.inl rfl) results22 rfl (i:=3) rfl r63 rfl rfl ?_;exact⟨rfl,rfl⟩;refine Jz 6 ?_;refine JgP ?_ ?_<;>intro g55;refine Jz 16 ?_;refine Jr (.bd [iv 0,iv 0,nz]) ?_;refine Jz 6 ?_;refine Jy [] rfl (.inl rfl) results22 rfl (i:=3) rfl r63 rfl rfl ?_;exact⟨rfl,rfl⟩;exact aPu hbad om
theorem QT{F:Fl}{ps:List PP}{k:Nat}{c:Cm}(b:Nat)(A:OA)(q:Nat)(hP:bG F ps)(hG:Ji F.pure)(hc:F.comps[k]?=some c)(v h:Int):∃U:RU,U.ok=(Pq F.pure ps k v h).isSome∧U.np=(Pq F.pure ps k v h).getD 0∧Dz 22 [pv b,nv k,iv v,iv h] [all (pgk b A q ps)] (fun r Γ'=>∃(B:OA) (m:Nat),r= .tuple #[.agg #[nv U.np,iv U.st,vs B U.l m], .bool U.ok]∧Γ'=[rows Ins.cells 147 4 B m U.l]):=by
 obtain⟨p,hp,hpp⟩:=kI hP hc;have hX:=Sm hG;have hpl:ps.length≤12:=by rw[hP.len];have:=hX.comps;omega
 have hul:=hpp.ul;have hnm:hnI ps (k:Int)=hnames (c.vers.map Vs.pure):=by rw[IA hp,hpp.names]
 have hvp:(pcI F.pure (k:Int)).vers=c.vers.map Vs.pure:=by rw[←fB,Sy hc]
 have hvl:(pcI F.pure (k:Int)).vers.length=c.vers.length:=by rw[hvp,aPg]
 have bad:(v<1∨(p.us.length:Int)<v∨h<0∨(p.names.length:Int)≤h)→∀U:RU,U=⟨false,0,0,[]⟩→Dz 22 [pv b,nv k,iv v,iv h] [all (pgk b A q ps)] (fun r Γ'=>∃(B:OA) (m:Nat),r= .tuple #[.agg #[nv U.np,iv U.st,vs B U.l m], .bool U.ok]∧Γ'=[rows Ins.cells 147 4 B m U.l]):=fun hb U e=>by
  rw[e];exact(bH (QS b A q ps k p hp hpl v h hb)).mono fun r Γ' ⟨h1,h2⟩=>⟨none,0,h1,h2⟩
 by_cases hv:v<1∨(c.vers.length:Int)<v
 ·refine⟨⟨false,0,0,[]⟩,?_,?_,bad om _ rfl⟩<;>rw[LD om]<;>rfl
 rcases Lv (hnames (c.vers.map Vs.pure)) h with hh|⟨m,s,rfl,hm⟩
 ·refine⟨⟨false,0,0,[]⟩,?_,?_,bad (by rw[hpp.names];omega) _ rfl⟩<;>rw[CW (by rw[hnm];exact hh)]<;>rfl
 · obtain⟨n,rfl⟩:∃n:Nat,v=(n:Int):=⟨v.toNat,by omega⟩
   have e:Pq F.pure ps (k:Int) (n:Int) (m:Int)=(Lu s none (c.vers.take n)).map (fun y=>y.ps.length):=by
    rw[LF om (by rw[hnm];exact hm),LC hG hc,hvp]
   have e2:pU F c n s=match Lu s none (c.vers.take n)with|none=>⟨false,0,0,[]⟩|some x=>⟨true,x.ps.length,(Lr (Ha F c x)).1,Ha F c x⟩:=aPf om
   refine⟨pU F c n s,?_,?_,pK b A q hP hG hc hm n⟩<;>rw[e,e2]<;>cases Lu s none (c.vers.take n)<;>rfl
theorem YB(fb:Nat)(X:FB)(A:OA)(q:Nat)(ps:List PP)(hP:PgX X (pgk X.pb A q ps) A q ps)(hC:X.F.Cap)(F:Fl)(hXp:X.F.pure=F.pure)(hB:PFB F.pure)(c v h:Int):Dz 17 [pv fb,iv c,iv v,iv h] [all (flk fb X (pgk X.pb A q ps))] (fun r Γ'=>r= .tuple #[nv ((Pq F.pure ps c v h).getD 0), .bool (Pq F.pure ps c v h).isSome]∧Γ'=[]):=by
 have h1:=LA fb X (pgk X.pb A q ps) A q ps hP hC (by rw[hXp];exact hB) c v h;rw[hXp]at h1;exact h1
theorem QU(p:Pl)(hp:p.Ok)(a h:Int):
    Dz 4 [.agg (cL p []).toArray,iv a,iv h] [all p.kids,gAc,glc,p10c,Fx,Uf] (fun v _=>v=bt):=by
 refine Ba func4 ntmps4 fun w0=>?_;refine Js (eu (Jbo fun b3=>?_));refine Jz 6 ?_;refine Jvf (pR) rfl (jS (lS 2 rfl) (jS (lS 3 rfl) (jS (lS 4 rfl) (jS (lS 5 rfl) (jS (lS 6 rfl) (jP _)))))) ?_;refine Jz 9 ?_;refine az [1,2,2,2,2] (wV p hp) ?_;rintro _ _ ⟨F,fb,X,A,q,ps,rfl,rfl,hG,hXC,hXp,F',hF',hP⟩;refine Jz 3 ?_;refine ae fun b8=>?_;refine Jz 6 ?_;have hFc:F.comps.length≤3:=(Sm hG).comps;have hB:PFB F.pure:=wW hG;have hG':Ji F'.pure:=by rw[hF'];exact hG
 have hPX:PgX X (pgk X.pb A q ps) A q ps:=aDt hG' hP;have hXC2:X.F.Cap:=hXC;refine Jz 2 ?_;refine Jr (Fh rfl underlying27 rfl rfl) ?_;refine Jz 7 ?_;refine cu 2 rfl (ros Gm F.Ac F.comps) rfl (En (k:=eR)) (Jz 8 ?_);refine Bz (fun s g mz ρ Γ=>∃(k:Nat),ρ=[s 1,s 2,s 7,s 8,s 34,s 35,(36,nv k)]∧Γ=[g 2,g 3,g 1,g 0]∧mz=F.comps.length-k∧(k≤F.comps.length)) ⟨⟨0,rfl,rfl,rfl,om⟩,sb⟩ ?_;rintro mz _ _ ⟨k,rfl,rfl,rfl,hk⟩;refine Jz 6 ?_;refine aa rfl ?_ ?_<;>intro k37;obtain⟨x,hx⟩:=aj F.comps k om;obtain⟨c,hc,hcx⟩:=XQ hF' hx;obtain⟨pp,hpp,hpo⟩:=kI hP hc;have hnm:hnI ps (k:Int)=hnames (x.vers.map Vs.pure):=by rw[IA hpp,hpo.names,show c.vers.map Vs.pure=x.vers.map Vs.pure from aPe PC.vers hcx]
 have hXx:=(Sm hG).comp x (sN hx);have hcv:x.vers.length≤1000:=by have:=hXx.vers2;omega
 have hvs:∀v∈x.vers,v.l.length≤100:=fun v hv=>by have:=(hXx.ver v hv).1;omega
 have hc3:=Zv fb X (pgk X.pb A q ps) A q ps hPX (k:Int);have hc4:=Rq x hcv hvs;have hnb:=Uy x hcv hvs;obtain⟨L,hL⟩:∃L,hnames (x.vers.map Vs.pure)=L:=⟨_,rfl⟩
 have hnmL:=hnm;rw[hL]at hnmL;rw[hnmL]at hc3;rw[hL]at hc4 hnb;refine Jz 9 ?_;refine ae fun b10=>?_;refine Jz 5 ?_;refine Cg 2 rfl (x.kids eR) (Cm.lax eR x) (Dg hx) (Ou [box b10 (cX x []) 38] [⟨0,[],0⟩,⟨1,[],0⟩,⟨3,[],0⟩,⟨2,[],4⟩,⟨4,[2],4⟩,⟨5,[2,4],0⟩,⟨6,[2,4],0⟩] mixed.h kr (jS (lS 1 rfl) (jP _)) (Jz 3 ?_));refine Dy rfl rfl rfl rfl rfl .fc (hc3) (by show owns (flk fb X (pgk X.pb A q ps))++[]=[];rw[(Gf (Lb _ _ _ _)).owns];rfl) (jS (lS 2 rfl) (jP _)) ?_;rintro _ _ ⟨Bh,rh,rfl,rfl⟩;refine⟨rfl,?_⟩;refine Dy rfl rfl rfl rfl rfl .fc (hc4) (by show owns (x.kids eR)++[]=[];rw[(x.lax eR).owns];rfl) (jS (lS 1 rfl) (jP _)) ?_;rintro _ _ ⟨Br,rr,rfl,rfl⟩;refine⟨rfl,?_⟩;refine Jz 14 ?_;refine aa rfl ?_ ?_<;>intro k50;exact aPu rfl k50;refine Jz 11 ?_;refine Bz (fun s g mz ρ Γ=>∃(j:Nat),ρ=[s 1,s 2,s 7,s 8,s 34,s 35,s 36,s 9,s 11,s 12,s 52,(53,nv j)]∧Γ=[g 4,g 5,g 6,g 7,g 1,g 0]∧mz=L.length-j∧(j≤L.length)) ⟨⟨0,rfl,rfl,rfl,om⟩,sb⟩ ?_;rintro mz _ _ ⟨j,rfl,rfl,rfl,hj⟩;refine Jz 6 ?_;refine aa rfl ?_ ?_<;>intro k54;obtain⟨w,hw⟩:=aj L j om;refine Jz 11 ?_;refine Jfw [] [0,1,4,5,102,103,106,107,8] (jP _) ?_;refine Jz 8 ?_;refine fo rfl (dV rfl rfl rfl) ?_;refine Jz 2 ?_;refine aa rfl ?_ ?_<;>intro k64;exact aPu rfl k64;refine Jz 8 ?_;refine Db ⟨⟨j+1,rfl,rfl,rfl,om⟩,sb⟩;refine Jz 8 ?_;refine Er [iv a,iv 1,iv 2] fun b67=>?_;refine Jz 5 ?_;refine Jas (rows QL 3 1 (some ⟨b67,0,none⟩) 3 ([a,1,2]:List Int)::_) rfl (Bz (fun s g mz ρ Γ=>∃(i:Nat),ρ=[s 1,s 2,s 7,s 8,s 34,s 35,s 36,s 9,s 67,s 68,(69,nv i)]∧Γ=[g 1,g 2,g 3,g 4,g 0]∧mz=3-i∧(i≤3)) ⟨⟨0,rfl,rfl,rfl,om⟩,sb⟩ ?_);rintro mz _ _ ⟨i,rfl,rfl,rfl,hi⟩;refine Jz 6 ?_;refine aa rfl ?_ ?_<;>intro k70;obtain⟨v,hv⟩:∃v,([a,1,2]:List Int)[i]?=some v:=⟨_,gge (show i<3 by omega)⟩
 refine Jz 14 ?_;refine Er [iv h,iv 0,iv 1,iv 2] fun b74=>?_;refine Jz 5 ?_;refine Jas (rows QL 3 1 (some ⟨b74,0,none⟩) 4 ([h,0,1,2]:List Int)::_) rfl (Bz (fun s g mz ρ Γ=>∃(m:Nat),ρ=[s 1,s 2,s 7,s 8,s 34,s 35,s 36,s 9,s 67,s 68,s 69,s 15,s 74,s 75,(76,nv m)]∧Γ=[g 1,g 2,g 3,g 4,g 5,g 0]∧mz=4-m∧(m≤4)) ⟨⟨0,rfl,rfl,rfl,om⟩,sb⟩ ?_);rintro mz _ _ ⟨m,rfl,rfl,rfl,hm⟩;refine Jz 6 ?_;refine aa rfl ?_ ?_<;>intro k77;obtain⟨w,hw⟩:∃w,([h,0,1,2]:List Int)[m]?=some w:=⟨_,gge (show m<4 by omega)⟩
 have hr1:=YB fb X A q ps hPX hXC F hXp hB (k:Int) v w;have hr2:=aEb F hG ps k x hx hnm v w;obtain⟨U,hUo,hUn,hU⟩:=QT X.pb A q hP hG' hc v w;rw[hF']at hUo hUn;obtain⟨Z,hZ⟩:∃Z,Pq F.pure ps (k:Int) v w=Z:=⟨_,rfl⟩
 rw[hZ]at hr1 hr2 hUo hUn;have hr3:=CP fb X A q ps U (k:Int) v w hU;rw[hUo,hUn]at hr3;refine Jz 17 ?_;refine Jqf (hr1) (by show owns (flk fb X (pgk X.pb A q ps))++[]=[];rw[(Gf (Lb _ _ _ _)).owns];rfl) (jS (lS 0 rfl) (jP _)) ?_;rintro _ _ ⟨rfl,rfl⟩;refine⟨rfl,?_⟩;refine Jz 13 ?_;refine Jqf (hr2) (by show owns (F.kids eR)++[]=[];rw[(Fl.lax eR F).owns];rfl) (jS (lS 1 rfl) (jP _)) ?_;rintro _ _ ⟨rfl,rfl⟩;refine⟨rfl,?_⟩;refine Jz 13 ?_;refine Jqf (hr3) (by show owns (flk fb X (pgk X.pb A q ps))++[]=[];rw[(Gf (Lb _ _ _ _)).owns];rfl) (jS (lS 0 rfl) (jP _)) ?_;rintro _ _ ⟨Bu,ru,rfl,rfl⟩;refine⟨rfl,?_⟩;refine Jz 3 ?_;refine ae fun b22=>?_;refine Jz 8 ?_;refine Jr (Cn (v':=bf) sm (Rd.neq rfl rfl rfl)) ?_;refine Jz 3 ?_;refine Jr (Cn (v':=bf) sm (Cn (v':=bf) (aPe Value.bool (by first|rfl|(rw[beq_self_eq_true];rfl))) (bV rfl underlying4 rfl rfl))) ?_;refine Jz 4 ?_;refine Jr (Cn (v':=bf) sm (Cn (v':=bf) (aPe Value.bool (by first|rfl|(rw[beq_self_eq_true];rfl))) (bV rfl underlying4 rfl rfl))) ?_;refine Jz 3 ?_;refine JgB ?_ ?_<;>intro g119;refine Jz 3 ?_;refine Jr (Cn (v':=bf) sm (Rd.neq rfl rfl rfl)) ?_;refine Jz 13 ?_;refine Bp ⟨⟨m+1,rfl,rfl,rfl,om⟩,sb⟩;refine Jz 17 ?_;refine Bp ⟨⟨m+1,rfl,rfl,rfl,om⟩,sb⟩;refine Jz 11 ?_;refine Bp ⟨⟨i+1,rfl,rfl,rfl,om⟩,sb⟩;refine Jz 11 ?_;refine Bp ⟨⟨k+1,rfl,rfl,rfl,om⟩,sb⟩;refine Jz 11 ?_;refine bg results4 ?_;rfl
end Go.Proofs.YtihgdnjkofpgiaaGreatDoor

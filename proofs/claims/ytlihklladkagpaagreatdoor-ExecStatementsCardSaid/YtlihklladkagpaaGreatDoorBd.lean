/- Own text. -/
import Derived.Test.YtlihklladkagpaaGreatDoorBc
import Derived.Test.YtlihklladkagpaaGreatDoorHa
set_option maxHeartbeats 8000000
set_option maxRecDepth 100000
set_option linter.unusedVariables false
set_option linter.unusedSimpArgs false
namespace Go.Proofs.YtlihklladkagpaaGreatDoor
open Go.Proofs.Tryz
open Go.RowKit Go.Flow Go.Mem Go.Sep Go.In
abbrev Pt0:Pt:=⟨0,0,none,0,[],none,0,[]⟩
abbrev Cd1:Cd:=⟨1,none,0,[]⟩
theorem Pt0.ok:Pt.Ok Pt0:=⟨by decide,by decide,aEu _,aEu _,fun x h=>(by cases h),fun x h=>(by cases h)⟩
theorem Cd1.ok:Cd.Ok Cd1:=⟨by decide,fun x h=>(by cases h),aEu _⟩
def Yt(p:Pt):List Nat:=XE (p.hs.map Cd.params) (p.sec.map Cd.params)
section
variable{C:Cx}{ρ:Cb}{Γ:List Ai}{K:Act→World→Prop}{A:OA}{ty:TypeId}{q:Nat}
theorem YA(k:To C ρ (all ([Pt0].flatMap Pt.kids)::ros Sy A [Pt0]::Γ) K):To C ρ (rows Sy ty 4 A q [Pt0]::Γ) K:=
 Cq (Mg (c:=all ([Pt0].flatMap Pt.kids)) rfl rfl (fun w=>Ig rfl fun c hc=>by
  have hc':c∈[ros Mm none [],ros Mm none []]:=hc
  simp only[aEi,aEs,or_false,or_self]at hc'
  rw[hc'];exact Vz _ w) k)
theorem YB(k:To C ρ (all ([Cd1].flatMap Cd.kids)::ros Mm A [Cd1]::Γ) K):To C ρ (rows Mm ty 2 A q [Cd1]::Γ) K:=
 Cq (Mg (c:=all ([Cd1].flatMap Cd.kids)) rfl rfl (fun w=>Ig rfl fun c hc=>by
  have hc':c∈[ros Gw none []]:=hc
  rw[aEr.1 hc'];exact Vz _ w) k)
theorem Ti{α:Type}{f:α→List Ai}{l:List α}{n:Nat}{c:Ai}(h:c∈(l.take n).flatMap f):c∈l.flatMap f:=by
 obtain⟨x,hx,hc⟩:=aEy.1 h
 exact aEy.2 ⟨x,aFy hx,hc⟩
theorem MW(p:Pl)(i:Nat)(hi:Γ[i]?=some (all p.kids))(k:To C ρ (all ((p.comps.take 3).flatMap Pt.kids)::ros Sy p.Ac (p.comps.take 3)::ros Sy p.Ac p.comps::Γ) K):To C ρ Γ K:=
 To.one i hi (ros Sy p.Ac p.comps) rfl (aEb _ (aEd ..)) (qW 3 0 rfl
  (Db (i+2) (cs:=p.kids) hi ((p.comps.take 3).flatMap Pt.kids) (Hm fun x _=>x.lax) (fun c hc=>aEb _ (aEb _ (Ti hc))) k))
theorem MX{L:List Pt}{k:Nat}{x:Pt}(hx:L[k]?=some x)(i:Nat)(hi:Γ[i]?=some (all (L.flatMap Pt.kids)))(k':To C ρ (all ((x.hs.take 3).flatMap Cd.kids)::ros Mm x.Ah (x.hs.take 3)::ros Mm x.Ah x.hs::Γ) K):To C ρ Γ K:=
 have hm:∀c∈x.kids,c∈L.flatMap Pt.kids:=fun c hc=>aEy.2 ⟨x,mog hx,hc⟩
 To.one i hi (ros Mm x.Ah x.hs) rfl (hm _ (aEd ..)) (qW 3 0 rfl
  (Db (i+2) (cs:=L.flatMap Pt.kids) hi ((x.hs.take 3).flatMap Cd.kids) (Hm fun x _=>x.lax) (fun c hc=>hm c (aEb _ (aEb _ (by rw[aFe];exact aGo _ (Ti hc))))) k'))
theorem FW{L:List Pt}{k:Nat}{x:Pt}(hx:L[k]?=some x)(i:Nat)(hi:Γ[i]?=some (all (L.flatMap Pt.kids)))(k':To C ρ (all ((x.sec.take 3).flatMap Cd.kids)::ros Mm x.As (x.sec.take 3)::ros Mm x.As x.sec::Γ) K):To C ρ Γ K:=
 have hm:∀c∈x.kids,c∈L.flatMap Pt.kids:=fun c hc=>aEy.2 ⟨x,mog hx,hc⟩
 To.one i hi (ros Mm x.As x.sec) rfl (hm _ (aEb _ (aEd ..))) (qW 3 0 rfl
  (Db (i+2) (cs:=L.flatMap Pt.kids) hi ((x.sec.take 3).flatMap Cd.kids) (Hm fun x _=>x.lax) (fun c hc=>hm c (aEb _ (aEb _ (by rw[aFe];exact aGf _ (Ti hc))))) k'))
theorem FX(O:List Ar)(a:Ar)(k:To C ρ (all ((O++[a]).flatMap Ar.kids)::Γ) K):To C ρ (ros bP a.A a.l::all (O.flatMap Ar.kids)::Γ) K:=by
 refine aF (To.perm (aFc _ _ _) (Kq ?_))
 rw[aFe]at k
 rw[show[a].flatMap Ar.kids=[ros bP a.A a.l]from aEz _]at k
 exact k
theorem SY(k:To C ρ (all (([]:List Ar).flatMap Ar.kids)::Γ) K):To C ρ Γ K:=Ko k
theorem TA(O:List Ar)(k:To C ρ (all (Go.Proofs.YtlihklladkagpaaGreatDoor.arsK A O)::Γ) K):To C ρ (rows aG ty 1 A q O::all (O.flatMap Ar.kids)::Γ) K:=Cq (Dn k)
theorem TB(k:To C ρ (all (([]:List Vs).flatMap (Vs.kids eR))::Γ) K):To C ρ Γ K:=Ko k
theorem MZ(k:To C ρ (all (([]:List Cm).flatMap (Cm.kids eR))::Γ) K):To C ρ Γ K:=Ko k
theorem fK(O:List Vs)(v:Vs)(k:To C ρ (all ((O++[v]).flatMap (Vs.kids eR))::Γ) K):To C ρ (all (v.kids eR)::all (O.flatMap (Vs.kids eR))::Γ) K:=by
 refine To.perm (aFc _ _ _) (Kq ?_)
 rw[aFe]at k
 rw[show[v].flatMap (Vs.kids eR)=v.kids eR from aEz _]at k
 exact k
theorem FY(O:List Cm)(c:Cm){ty1 ty2:TypeId}(k:To C ρ (all ((O++[c]).flatMap (Cm.kids eR))::Γ) K):To C ρ (rows Oj ty1 3 c.Av c.qv c.vars::rows Ik ty2 1 c.An c.qn c.vers::all (c.vers.flatMap (Vs.kids eR))::all (O.flatMap (Cm.kids eR))::Γ) K:=by
 refine Cq (To.perm (Γ':=rows Ik ty2 1 c.An c.qn c.vers::ros Oj c.Av c.vars::all (c.vers.flatMap (Vs.kids eR))::all (O.flatMap (Cm.kids eR))::Γ) (aFc _ _ _) (Cq (To.perm (Γ':=ros Oj c.Av c.vars::ros Ik c.An c.vers::all (c.vers.flatMap (Vs.kids eR))::all (O.flatMap (Cm.kids eR))::Γ) (aFc _ _ _) (To.perm (Γ':=ros Ik c.An c.vers::all (c.vers.flatMap (Vs.kids eR))::ros Oj c.Av c.vars::all (O.flatMap (Cm.kids eR))::Γ) ?_ (Dn (To.perm (aFc _ _ _) (Dn (To.perm (aFc _ _ _) (Kq ?_)))))))))
 ·exact(List.Perm.trans (aFc _ _ _) (List.Perm.cons _ (aFc _ _ _)))
 rw[aFe]at k
 rw[show[c].flatMap (Cm.kids eR)=ros Oj c.Av c.vars::ros Ik c.An c.vers::c.vers.flatMap (Vs.kids eR)from aEz _]at k
 exact k
theorem To.fl(f:Fl){t1 t2 t3:TypeId}(k:To C ρ (all (f.kids eR)::Γ) K):To C ρ (rows Gx t1 2 f.Af f.qf f.flags::rows Lb t2 3 f.Al f.ql f.links::rows Jl t3 3 f.Ac f.qc f.comps::all (f.comps.flatMap (Cm.kids eR))::Γ) K:=by
 refine Cq (To.perm (Γ':=rows Lb t2 3 f.Al f.ql f.links::rows Jl t3 3 f.Ac f.qc f.comps::all (f.comps.flatMap (Cm.kids eR))::ros Gx f.Af f.flags::Γ) ?_ (Cq ?_))
 ·exact(aEl (l₁:=[_,_,_])).symm
 refine To.perm (Γ':=rows Jl t3 3 f.Ac f.qc f.comps::all (f.comps.flatMap (Cm.kids eR))::ros Lb f.Al f.links::ros Gx f.Af f.flags::Γ) ?_ (Cq (Dn (To.perm (aFc _ _ _) (Dn ?_))))
 ·exact(aEl (l₁:=[_,_])).symm
 exact To.perm (aFc _ _ _) (Dn k)
end
theorem Xc{n k:Nat}(h:k<n*n):k/n<n∧k%n<n:=by
 have h0:0<n:=Nat.pos_of_ne_zero fun e=>by rw[e]at h;simp at h
 exact⟨Nat.div_lt_of_lt_mul h,Nat.mod_lt _ h0⟩
theorem yI{n a b:Nat}(h:a/n=b/n)(h2:a%n=b%n):a=b:=by rw[←Nat.div_add_mod a n,h,h2,Nat.div_add_mod]
structure eH(n k:Nat)(l:List Lk):Prop where
 each:∀x∈l,∃j,j<k∧j<n*n∧x.src=nC (j/n)∧x.dst=nC (j%n)∧1≤x.lat∧x.lat≤3
 nodup:(l.map fun x=>(x.src,x.dst)).Nodup
 len:l.length≤k
theorem eH.nil(n:Nat):eH n 0 []:=⟨fun x h=>(by cases h),List.nodup_nil,aEu _⟩
theorem eH.skip{n k:Nat}{l:List Lk}(h:eH n k l):eH n (k+1) l:=⟨fun x hx=>by obtain⟨j,h1,h2⟩:=h.each x hx;exact⟨j,by omega,h2⟩,h.nodup,by have:=h.len;omega⟩
theorem eH.push{n k y:Nat}{l:List Lk}(h:eH n k l)(hn:n≤3)(hk:k<n*n)(hy:1≤y∧y≤3):eH n (k+1) (l++[⟨nC (k/n),nC (k%n),((y:Nat):Int)⟩]):=by
 refine⟨fun x hx=>?_,?_,by rw[lap];have:=h.len;show l.length+1≤_;omega⟩
 · rcases aFi.1 hx with hx|hx
   ·exact h.skip.each x hx
   ·rw[aEr.1 hx];exact⟨k,by omega,hk,rfl,rfl,by show(1:Int)≤(y:Int);omega,by show(y:Int)≤3;omega⟩
 · rw[aEq]
   refine List.nodup_append.2 ⟨h.nodup,by simp,fun a ha b hb e=>?_⟩
   obtain⟨x,hx,rfl⟩:=aEv.1 ha
   have hb2:b=(nC (k/n),nC (k%n)):=by simpa using hb
   rw[hb2]at e
   obtain⟨j,hj,hjn,h1,h2,_⟩:=h.each x hx
   have e1:=congrArg Prod.fst e
   have e2:=congrArg Prod.snd e
   simp only[h1,h2]at e1 e2
   obtain⟨d1,d2⟩:=Xc hjn
   obtain⟨d3,d4⟩:=Xc hk
   have:=yI (jN om om e1) (jN om om e2)
   omega
theorem eH.good{n k:Nat}{l:List Lk}(h:eH n k l)(hk:k≤n*n)(hn:n≤3):l.length≤9∧(∀x∈l,∃i j,i<n∧j<n∧x.src=nC i∧x.dst=nC j∧1≤x.lat∧x.lat≤3)∧(l.map fun x=>(x.src,x.dst)).Nodup:=by
 refine⟨?_,fun x hx=>?_,h.nodup⟩
 · have:=h.len
   have h9:n*n≤3*3:=Nat.mul_le_mul hn hn
   omega
 · obtain⟨j,_,hj,h1,h2,h3⟩:=h.each x hx
   obtain⟨d1,d2⟩:=Xc hj
   exact⟨_,_,d1,d2,h1,h2,h3⟩
theorem BV{h s:List Nat}:∀k,(arP h s k).length=min k (max (max h.length s.length) 1)
 |0=>by simp[arP]
 | k + 1=>by
   rw[kH,lap,BV k]
   unfold arF
   by_cases h1:k<h.length
   ·rw[aEh h1,gge h1];show _+1=_;omega
   · rw[aEa h1]
     by_cases h2:k=0
     ·rw[aEh h2];show _+1=_;omega
     · rw[aEa h2]
       by_cases h3:k<s.length
       ·rw[aEh h3,gge h3];show _+1=_;omega
       ·rw[aEa h3];show _+0=_;omega
theorem Tz(p:Pt):(Yt p).length=min 3 (max (max p.hs.length p.sec.length) 1):=by
 have:=BV (h:=p.hs.map Cd.params) (s:=p.sec.map Cd.params) 3
 rw[aEg,aEg]at this
 exact this
theorem TC(p:Pt):∀x∈Yt p,x≤2:=fun x hx=>by
 obtain⟨k,_,hk⟩:=List.mem_filterMap.1 (show x∈(List.range 3).filterMap (arF (p.hs.map Cd.params) (p.sec.map Cd.params))from hx)
 unfold arF at hk
 split at hk
 ·obtain⟨y,_,rfl⟩:=aFg.1 hk;omega
 · split at hk
   ·cases hk;omega
   · split at hk
     ·obtain⟨y,_,rfl⟩:=aFg.1 hk;omega
     ·cases hk
theorem YC{L:List Pt}{O:List Ar}(h1:1≤L.length∧L.length≤3)(h:O.map Ar.l=L.map Yt):tT (O.map Ar.l):=by
 rw[h]
 refine⟨by rw[aEg];exact h1,fun l hl=>?_⟩
 obtain⟨p,_,rfl⟩:=aEv.1 hl
 exact⟨by rw[Tz];omega,by rw[Tz];omega,TC p⟩
theorem FZ{fl:Nat}{ars:List (List Nat)}{O:List Cm}{c:Cm}(hO:∀i c,(O.map Cm.pure)[i]?=some c→Uy fl ars i c)(hh:Uy fl ars O.length c.pure):∀i c',((O++[c]).map Cm.pure)[i]?=some c'→Uy fl ars i c':=fun i h' hi=>by
 rw[aEq]at hi
 by_cases hl:i<(O.map Cm.pure).length
 ·rw[aFj hl]at hi;exact hO i h' hi
 · rw[aFw om]at hi
   rw[aEg]at hi hl
   have h0:i-O.length=0:=by
    rcases Nat.eq_zero_or_pos (i-O.length)with h0|h0
    ·exact h0
    ·rw[List.getElem?_eq_none (by simp;omega)]at hi;cases hi
   have hi2:i=O.length:=om
   rw[h0]at hi
   obtain rfl:c.pure=h':=by simpa using hi
   rw[hi2];exact hh
theorem YD{L:List Pt}{O:List Ar}{k:Nat}{x:Pt}(h:O.map Ar.l=L.map Yt)(hx:L[k]?=some x):∃a,O[k]?=some a∧a.l=Yt x:=by
 have h1:(O.map Ar.l)[k]?=some (Yt x):=by rw[h,aEp,hx];rfl
 rw[aEp]at h1
 exact aFg.1 h1
def dW(n:Nat):List Vr:=(List.range n).map fun k=>⟨nm 120 k,1,(k:Int)⟩
theorem yJ(n:Nat):dW (n+1)=dW n++[⟨nm 120 n,1,(n:Int)⟩]:=by unfold dW;rw[List.range_succ,aEq];rfl
def kJ(n:Nat):List Vr:=(List.range n).map fun _=>⟨nT0,3,0⟩
theorem yK(n:Nat):kJ (n+1)=kJ n++[⟨nT0,3,0⟩]:=by unfold kJ;rw[List.range_succ,aEq];rfl
theorem nK(n:Nat):(dW n).length=n:=by unfold dW;rw[aEg,List.length_range]
theorem GA(n:Nat):(kJ n).length=n:=by unfold kJ;rw[aEg,List.length_range]
def NA(c:Ct)(ar:List Nat)(n:Nat)(v:Vs):Prop:=(∀i h,(v.l.map Hd.pure)[i]?=some h→Xr c ar i h)∧v.l.length=n
theorem NA.good{c:Ct}{ar:List Nat}{n:Nat}{v:Vs}(h:NA c ar n v)(h1:1≤n)(h2:n≤ar.length):mU c ar v.pure∧v.pure.length=n:=by
 have hl:v.pure.length=n:=by show(v.l.map Hd.pure).length=n;rw[aEg];exact h.2
 exact⟨⟨by omega,by omega,h.1⟩,hl⟩
theorem GD{fl ints tables i:Nat}{ars:List (List Nat)}{ar:List Nat}{c:Cm}{v:Vs}{n:Nat}(h1:c.name=nC i)(hi:1≤ints∧ints≤3)(ht:tables≤1)(ha:ars[i]?=some ar)(hv:c.vars=varsOf ints tables)(hw:c.vers=[v])(hk:NA ⟨ints,tables,fl,i,ars⟩ ar n v)(hn:1≤n)(hl:n=ar.length):Uy fl ars i c.pure:=by
 obtain⟨g1,g2⟩:=hk.good hn om
 refine⟨h1,ints,tables,ar,hi,ht,ha,hv,?_,?_,?_⟩
 · show∀x∈c.vers.map Vs.pure,_
   rw[hw];intro x hx;rw[aEr.1 hx];exact g1
 · show 1≤(c.vers.map Vs.pure).length∧(c.vers.map Vs.pure).length≤2
   rw[hw];exact⟨aEu _,Nat.le_succ _⟩
 · show∃x∈c.vers.map Vs.pure,_
   rw[hw];exact⟨_,List.mem_singleton_self _,by omega⟩
theorem nL{fl ints tables i:Nat}{ars:List (List Nat)}{ar:List Nat}{c:Cm}{v v2:Vs}{n n2:Nat}(h1:c.name=nC i)(hi:1≤ints∧ints≤3)(ht:tables≤1)(ha:ars[i]?=some ar)(hv:c.vars=varsOf ints tables)(hw:c.vers=[v,v2])(hk:NA ⟨ints,tables,fl,i,ars⟩ ar n v)(hk2:NA ⟨ints,tables,fl,i,ars⟩ ar n2 v2)(hn:1≤n)(hn2:1≤n2)(hl:max n n2=ar.length):Uy fl ars i c.pure:=by
 obtain⟨g1,g2⟩:=hk.good hn om
 obtain⟨g3,g4⟩:=hk2.good hn2 om
 refine⟨h1,ints,tables,ar,hi,ht,ha,hv,?_,?_,?_⟩
 · show∀x∈c.vers.map Vs.pure,_
   rw[hw];intro x hx
   rcases aEi.1 hx with rfl|hx
   ·exact g1
   ·rw[aEr.1 hx];exact g3
 · show 1≤(c.vers.map Vs.pure).length∧(c.vers.map Vs.pure).length≤2
   rw[hw];exact⟨Nat.le_succ _,aEu _⟩
 · show∃x∈c.vers.map Vs.pure,_
   rw[hw]
   rcases Nat.le_total n n2 with h|h
   ·exact⟨_,aEb _ (List.mem_singleton_self _),by omega⟩
   ·exact⟨_,aEd ..,by omega⟩
def LeR(x y:Nat):Value→List Ai→Prop:=fun v Γ'=>v=nv (min x y)∧Γ'=[]
theorem nM(x y:Nat):
    Dz 48 [nv x,nv y] [] (LeR x y):=by
 refine Am func48 ntmps48 fun w0=>?_
 refine Jz 13 ?_
 refine Jcp rfl ?_ ?_<;>intro c7
 refine Jz 8 ?_
 refine Ce [] rfl (Je1 results48 ?_)
 exact⟨congrArg iv om,rfl⟩
 refine Jz 9 ?_
 refine Ce [] rfl (Je1 results48 ?_)
 exact⟨congrArg iv om,rfl⟩
def YE:Value→List Ai→Prop:=fun v Γ'=>∃F:Fl,v= .agg F.cells.toArray∧Γ'=[all (F.kids eR)]∧Ku F.pure
theorem NB(p:Pl)(hp:p.Ok):
    Dz 23 [.agg (cL p []).toArray] [all p.kids] (YE):=by
 have hpc:=hp.comps
 refine Am func23 ntmps23 fun w0=>?_
 refine Js (To.g (Jbo fun b1=>?_))
 refine Jal fun b2=>?_
 refine Jz 7 ?_
 refine Jvf (jJ p.comps.length 3) rfl (ocn _) ?_
 refine Jz 8 ?_
 refine Jr (Eo (hi:=(min p.comps.length 3)) rfl s23 rfl rfl om) ?_
 refine Jz 10 ?_
 refine Ru (T:=(OA)×(Nat)×(List Pt)) (fun t=>([(1,pv b1),(2,pv b2),(3,nv ((t.2.2).length)),(4, .slice (t.1) (t.2.2).length (t.2.1))],[box b1 (cL p []) 25,box b2 [.string bE,nz,nz,nz] 36,all p.kids,ros Sy (t.1) (t.2.2),all (List.flatMap Pt.kids (t.2.2))])) (fun t=>(1≤(t.2.2).length∧(t.2.2).length≤3)∧(∀x∈(t.2.2),x.Ok)∧((t.2.2).length≤(t.2.1))) ?_ ?_
 refine Jcp rfl ?_ ?_<;>intro c31
 have h31:p.comps.length=0:=om
 refine To.g (Jr (.bd [.int .u8 0, .int .u8 0,nz,nz]) ?_)
 refine Eg [.int .u8 0, .int .u8 0,nz,nz] fun b33=>?_
 refine Jz 4 ?_
 refine YA (Lv ((some ⟨b33,0,none⟩),1,[Pt0]) ⟨⟨aEu _,(show(1:Nat)≤3 from by decide)⟩,(fun x hx=>by rw[aEr.1 hx];exact Pt0.ok),(aEu _)⟩)
 have h31:p.comps.length≠0:=om
 have hpc:=hp.comps
 refine Jsp (Jt (MW p 2 rfl (Cu (Le (Md (Ic (Md (Jhe (p.Ac,p.qc,(p.comps.take 3)) ⟨(by rw[aEe];omega),(fun x hx=>hp.ck x (aFy hx)),(show(p.comps.take 3).length≤p.qc by rw[aEe];omega)⟩ ⟨rfl,rfl,(congrArg (fun n:Nat=>some (nv n)) (by rw[aEe];omega)),(congrArg (fun n:Nat=>some (Value.slice p.Ac n p.qc)) (by rw[aEe];omega)),trivial⟩ rfl))))))))
 rintro⟨Pa,qp,L⟩ ⟨hL,hLk,hLq⟩
 replace hL:1≤L.length∧L.length≤3:=hL
 replace hLk:∀x∈L,x.Ok:=hLk
 replace hLq:L.length≤qp:=hLq
 dsimp only
 have hLL:L.length*L.length≤3*3:=Nat.mul_le_mul hL.2 hL.2
 have hLi:(0:Int)≤((L.length:Nat):Int)*((L.length:Nat):Int)∧((L.length:Nat):Int)*((L.length:Nat):Int)≤9:=by rw[←Int.natCast_mul];exact⟨Int.natCast_nonneg _,Int.ofNat_le.2 hLL⟩
 have hpf:=hp.flags
 have hpl:=hp.links.2
 refine Js (To.g (Jr (.bd [.string (aLy [102,108,101,101,116,49]),nz,nz,nz]) ?_))
 refine Jal fun b5=>?_
 refine Jz 8 ?_
 refine Jr (Ke (a:=p.flags) (b:=3) rfl rfl rfl om) ?_
 refine Jr (Fv rfl rfl underlying5 underlying3 (IntWalk.i64_in _ om)) ?_
 refine Jqf (Gq 102 (p.flags%3) om om) rfl (ocn _) ?_
 rintro _ _ ⟨An,qn,rfl,rfl,_⟩
 refine⟨rfl,?_⟩
 refine Jz 5 ?_
 refine Cz (Gx) 152 2 (Cw (fun s g mz ρ Γ=>∃(Af:OA) (qf:Nat) (Fs:List Fg) (kf:Nat),ρ=[s 1,s 2,s 3,s 4,s 5,s 39,s 40,(41,nv kf)]∧Γ=[g 3,g 4,g 5,g 6,g 7,box b5 [.string (aLy [102,108,101,101,116,49]),vs Af Fs qf,nz,nz] 36,g 1,rows Gx 152 2 Af qf Fs]∧mz=p.flags%3-kf∧(kf≤p.flags%3)∧(Fs.map Fg.name=nms 102 kf)) ⟨⟨none,0,([]:List Fg),0,rfl,rfl,rfl,om,rfl⟩,sb⟩ ?_)
 rintro mz _ _ ⟨Af,qf,Fs,kf,rfl,rfl,rfl,hkf,hF⟩
 have hnl:(nms 102 (p.flags%3)).length=p.flags%3:=Dq _ _
 have hFl:Fs.length=kf:=by have:=congrArg List.length hF;rwa[aEg,Dq]at this
 refine Jz 6 ?_
 refine Jcp rfl ?_ ?_<;>intro c42
 refine Jz 7 ?_
 refine Jr (Ga (i:=6) (j:=kf) rfl rfl rfl s37 rfl (Ea om)) ?_
 refine Jr (Ck (i:=6) rfl rfl c9 rfl (Dc (rwg Ec (Ea om)) rfl)) ?_
 refine Jz 4 ?_
 refine Jfw [] [0,2,3,5,6,101,104,7,8,9,10,211,12512,13,514] (ocn _) ?_
 refine Jz 4 ?_
 refine Fw.f rfl (Ns (a:=4) (b:=kf) rfl rfl rfl om) ?_
 refine Jz 2 ?_
 refine Fw.f rfl (eT (a:=p.flags) (j:=(4+kf)) rfl rfl rfl (by simp only[IntKind.bits];omega)) ?_
 refine Fw.f rfl (Ke (a:=(p.flags/2^(4+kf))) (b:=2) rfl rfl rfl om) ?_
 refine Jz 1 ?_
 refine Fw.f rfl (.bd [.string (nm 102 kf), .bool (decide ((((p.flags/2^(4+kf))%2:Nat):Int)=1))]) ?_
 refine Es [.string (nm 102 kf), .bool (decide ((((p.flags/2^(4+kf))%2:Nat):Int)=1))] fun b57=>?_
 refine Fw.ge rfl rfl rfl rfl (Bg tN (i:=8) (j:=0) (el:=(⟨nm 102 kf,decide ((((p.flags/2^(4+kf))%2:Nat):Int)=1)⟩:Fg)) rfl s32 rfl rfl rfl rfl rfl om om) ?_
 rintro _ _ ⟨A58,q58,rfl,rfl⟩
 refine⟨ocn _,?_⟩
 refine Jz 1 ?_
 refine Fw.up rfl rfl rfl (Up.store (i:=6) rfl rfl rfl c32 rfl rfl (bt1 rfl)) (ocn _) ?_
 refine Jz 8 ?_
 refine Cg ⟨⟨A58,q58,(Fs++[(⟨nm 102 kf,decide ((((p.flags/2^(4+kf))%2:Nat):Int)=1)⟩:Fg)]),kf+1,rfl,rfl,rfl,om,(by rw[aEq,hF,jG];rfl)⟩,sb⟩
 refine Jz 7 ?_
 refine Eg [.string (nC 0), .string (nC 1), .string (nC 2)] fun b61=>?_
 refine Jz 10 ?_
 refine Cz (Lb) 154 3 ?_
 have hnl:(nms 102 (p.flags%3)).length=p.flags%3:=Dq _ _
 refine Cw (fun s g mz ρ Γ=>∃(Al:OA) (ql:Nat) (Ls:List Lk) (kl:Nat),ρ=[s 1,s 2,s 3,s 4,s 5,s 8,(9,nv kl)]∧Γ=[g 2,g 3,g 4,g 5,g 6,g 1,box b5 [.string (aLy [102,108,101,101,116,49]),vs Af Fs qf,vs Al Ls ql,nz] 36,g 9,rows Lb 154 3 Al ql Ls]∧mz=L.length*L.length-kl∧(kl≤L.length*L.length)∧(eH L.length kl Ls)) ⟨⟨none,0,([]:List Lk),0,rfl,rfl,rfl,om,(eH.nil _)⟩,sb⟩ ?_
 rintro mz _ _ ⟨Al,ql,Ls,kl,rfl,rfl,rfl,hkl,hLs⟩
 have hLsl:=hLs.len
 refine Jz 3 ?_
 refine Nk [1,2,3,4,5,8,9] 73 ((decide (((kl:Nat):Int)<((p.links.length:Nat):Int)))&&decide (((kl:Nat):Int)<((L.length*L.length:Nat):Int))) ?_ ?_
 refine Jz 5 ?_
 refine JgP ?_ ?_<;>intro g67
 refine Jz 3 ?_
 refine Jr (Cr (v':=nv (L.length*L.length)) (congrArg iv (Int.natCast_mul ..)) (Rd.mul (m:=((L.length:Nat):Int)) (n:=((L.length:Nat):Int)) rfl rfl rfl (IntWalk.i64_in _ (by obtain⟨h1,h2⟩:=hLi;omega)))) ?_
 refine Jz 4 ?_
 refine Gg rfl (gg g67)
 refine Jz 8 ?_
 refine Gg rfl (gg g67)
 refine Ed rfl ?_ ?_<;>intro c73
 simp only[aFd,aFm]at c73
 obtain⟨c73,c73b⟩:=c73
 have hdm:=Xc (n:=L.length) (k:=kl) om
 obtain⟨hd1,hd2⟩:=hdm
 obtain⟨y,hy⟩:=exg p.links kl om
 have hyb:=hp.links.1 y (mog hy)
 refine Jz 5 ?_
 refine To.one 2 rfl (ros Gw p.Al p.links) rfl (aEd ..) (Jz 6 ?_)
 refine Jr (Ke (a:=y) (b:=4) rfl rfl rfl om) ?_
 refine Jz 3 ?_
 refine Jcp rfl ?_ ?_<;>intro c82
 have h82:1≤y%4∧y%4≤3:=om
 refine Jfw [] [0,2,3,4,5,8,9,10,11,14,16,101,106,107,112,113,115,117,118,19,20,21,222,23523,24,525] (ocn _) ?_
 refine Jz 4 ?_
 refine Fw.f rfl (Cr (v':=nv (kl/L.length)) (congrArg iv (Int.natCast_ediv ..)) (IY (m:=((kl:Nat):Int)) (n:=((L.length:Nat):Int)) rfl rfl rfl om om om)) ?_
 refine Jz 3 ?_
 refine Fw.f rfl (Ke (a:=kl) (b:=L.length) rfl rfl rfl om) ?_
 refine Jz 3 ?_
 refine Fw.r rfl (Ga (enc:=aMb) (l:=[nC 0,nC 1,nC 2]) (cap:=3) (i:=6) (j:=(kl/L.length)) rfl rfl rfl s37 rfl (Nv om)) ?_
 refine Fw.r rfl (Ck (i:=6) rfl rfl c9 rfl (Dc (rwg Ec (Nv om)) rfl)) ?_
 refine Fw.r rfl (Ga (enc:=aMb) (l:=[nC 0,nC 1,nC 2]) (cap:=3) (i:=6) (j:=(kl%L.length)) rfl rfl rfl s37 rfl (Nv om)) ?_
 refine Fw.r rfl (Ck (i:=6) rfl rfl c9 rfl (Dc (rwg Ec (Nv om)) rfl)) ?_
 refine Jz 3 ?_
 refine Fw.f rfl (Ke (a:=y) (b:=4) rfl rfl rfl om) ?_
 refine Fw.f rfl (Fv rfl rfl underlying5 underlying3 (IntWalk.i64_in _ om)) ?_
 refine Fw.f rfl (.bd [.string (nC (kl/L.length)), .string (nC (kl%L.length)),nv (y%4)]) ?_
 refine Es [.string (nC (kl/L.length)), .string (nC (kl%L.length)),nv (y%4)] fun b105=>?_
 refine Fw.ge rfl rfl rfl rfl (Bg tO (i:=10) (j:=0) (el:=(⟨nC (kl/L.length),nC (kl%L.length),((y%4:Nat):Int)⟩:Lk)) rfl s33 rfl rfl rfl rfl rfl om om) ?_
 rintro _ _ ⟨A106,q106,rfl,rfl⟩
 refine⟨ocn _,?_⟩
 refine Jz 1 ?_
 refine Fw.up rfl rfl rfl (Up.store (i:=8) rfl rfl rfl c33 rfl rfl (bt1 rfl)) (ocn _) ?_
 refine Jz 9 ?_
 refine Cg ⟨⟨A106,q106,(Ls++[(⟨nC (kl/L.length),nC (kl%L.length),((y%4:Nat):Int)⟩:Lk)]),kl+1,rfl,rfl,rfl,om,(hLs.push hL.2 om om)⟩,sb⟩
 refine Jz 9 ?_
 refine Cg ⟨⟨Al,ql,Ls,kl+1,rfl,rfl,rfl,om,hLs.skip⟩,sb⟩
 refine Jz 19 ?_
 refine Cz (aG) 62 1 (SY (Cw (fun s g mz ρ Γ=>∃(Aa:OA) (qa:Nat) (O3:List Ar) (ka:Nat),ρ=[s 1,s 2,s 3,s 4,s 5,s 8,(10,vs Aa O3 qa),s 108,s 109,(110,nv ka)]∧Γ=[g 2,g 3,g 4,g 5,g 6,g 7,g 8,g 9,g 10,rows aG 62 1 Aa qa O3,all (List.flatMap Ar.kids O3)]∧mz=L.length-ka∧(ka≤L.length)∧(O3.map Ar.l=(L.take ka).map Yt)) ⟨⟨none,0,([]:List Ar),0,rfl,rfl,rfl,om,rfl⟩,sb⟩ ?_))
 rintro mz _ _ ⟨Aa,qa,O3,ka,rfl,rfl,rfl,hka,hO3⟩
 have hO3l:O3.length=ka:=by have:=congrArg List.length hO3;rw[aEg,aEg,aEe]at this;omega
 refine Jz 6 ?_
 refine Jcp rfl ?_ ?_<;>intro aCt
 obtain⟨x,hx⟩:=exg L ka om
 refine Jz 8 ?_
 refine Jal fun b12=>?_
 refine Jz 3 ?_
 refine To.one 5 rfl (ros Mm x.As x.sec) rfl (aEy.2 ⟨x,mog hx,aEb _ (aEd ..)⟩) (To.one 6 rfl (ros Mm x.Ah x.hs) rfl (aEy.2 ⟨x,mog hx,aEd ..⟩) (Jz 3 ?_))
 refine Jqf (MV x (hLk x (mog hx))) rfl (ocs (oca 0 rfl) (ocs (oca 1 rfl) (ocn _))) ?_
 rintro _ _ ⟨Aq,qq,rfl,rfl⟩
 refine⟨rfl,?_⟩
 refine Eg [vs Aq (Yt x) qq] fun b117=>?_
 refine Jge rfl rfl rfl (Bg KY (i:=14) (j:=0) (el:=(⟨Aq,qq,Yt x⟩:Ar)) rfl aDa rfl rfl rfl rfl rfl om om) ?_
 rintro _ _ ⟨A118,q118,rfl,rfl⟩
 refine Jz 9 ?_
 refine Le (Cq (mD (Le (FX O3 (⟨Aq,qq,Yt x⟩:Ar) (Cg ⟨⟨A118,q118,(O3++[(⟨Aq,qq,Yt x⟩:Ar)]),ka+1,rfl,rfl,rfl,om,(by rw[aEq,hO3,Cf hx,aEq];rfl)⟩,sb⟩)))))
 refine Jz 14 ?_
 have hO3c:O3.map Ar.l=L.map Yt:=by rw[hO3,show ka=L.length by omega,List.take_length]
 have hars:=YC hL hO3c
 refine Ux (Ux (TA O3 (Cz (Jl) 97 3 (MZ (Cw (fun s g mz ρ Γ=>∃(Ac:OA) (qc:Nat) (O4:List Cm) (k:Nat),ρ=[s 1,s 2,s 5,s 8,s 10,s 120,s 121,(122,nv k)]∧Γ=[g 3,g 4,g 5,g 6,g 7,g 8,box b5 [.string (aLy [102,108,101,101,116,49]),vs Af Fs qf,vs Al Ls ql,vs Ac O4 qc] 36,g 10,g 11,g 2,rows Jl 97 3 Ac qc O4,all (List.flatMap (Cm.kids eR) O4)]∧mz=L.length-k∧(k≤L.length)∧(O4.length=k)∧(∀i c,(O4.map Cm.pure)[i]?=some c→Uy Fs.length (O3.map Ar.l) i c)) ⟨⟨none,0,([]:List Cm),0,rfl,rfl,rfl,om,rfl,(fun i c hi=>by simp at hi)⟩,sb⟩ ?_)))))
 rintro mz _ _ ⟨Ac,qc,O4,k,rfl,rfl,rfl,hk,hO4l,hO4⟩
 refine Jz 6 ?_
 refine Jcp rfl ?_ ?_<;>intro c123
 obtain⟨x,hx⟩:=exg L k om
 have hxk:=hLk x (mog hx)
 obtain⟨a,ha,hal⟩:=YD hO3c hx
 have hxi:=hxk.ints
 have hxt:=hxk.tables
 have hxh:=hxk.hs
 have hxs:=hxk.sec
 have hO3n:(O3.map Ar.l).length=L.length:=by rw[hO3c,aEg]
 have hct:Ct.Ok ⟨1+x.ints%3,x.tables%2,Fs.length,k,O3.map Ar.l⟩:=⟨show 1≤1+x.ints%3∧1+x.ints%3≤3 by omega,show x.tables%2≤1 by omega,show Fs.length≤2 by omega,show k<(O3.map Ar.l).length by omega,hars.1.2,hars.2⟩
 have hal3:a.l.length=min 3 (max (max x.hs.length x.sec.length) 1):=by rw[hal];exact Tz x
 refine Jz 9 ?_
 refine Jal fun b14=>?_
 refine Jz 8 ?_
 refine Jr (Ga (enc:=aMb) (l:=[nC 0,nC 1,nC 2]) (cap:=3) (i:=6) (j:=k) rfl rfl rfl s37 rfl (Nv om)) ?_
 refine Jr (Ck (i:=6) rfl rfl c9 rfl (Dc (rwg Ec (Nv om)) rfl)) ?_
 refine Jr (.bd [.string (nC k),nz,nz]) ?_
 refine Jal fun b15=>?_
 refine Jz 8 ?_
 refine Jr (Ke (a:=x.ints) (b:=3) rfl rfl rfl om) ?_
 refine Jr (Fv rfl rfl underlying5 underlying3 (IntWalk.i64_in _ om)) ?_
 refine Jr (Ns (a:=1) (b:=(x.ints%3)) rfl rfl rfl om) ?_
 refine Jqf (Gq 120 (1+x.ints%3) om om) rfl (ocn _) ?_
 rintro _ _ ⟨Anx,qnx,rfl,rfl,_⟩
 refine⟨rfl,?_⟩
 refine Jz 5 ?_
 refine Cz (Oj) 113 3 (Cw (fun s g mz ρ Γ=>∃(Av:OA) (qv:Nat) (V:List Vr) (jx:Nat),ρ=[s 1,s 2,s 5,s 8,s 10,s 120,s 121,s 122,s 13,s 14,s 15,s 137,s 138,(139,nv jx)]∧Γ=[g 4,g 5,g 6,g 7,g 8,g 9,g 10,g 11,g 12,g 13,g 14,g 15,g 3,box b15 [.string (nC k),vs Av V qv,nz] 97,g 1,rows Oj 113 3 Av qv V]∧mz=1+x.ints%3-jx∧(jx≤1+x.ints%3)∧(V=dW jx)) ⟨⟨none,0,([]:List Vr),0,rfl,rfl,rfl,om,rfl⟩,sb⟩ ?_)
 rintro mz _ _ ⟨Av,qv,V,jx,rfl,rfl,rfl,hjx,hV⟩
 have hnx:(nms 120 (1+x.ints%3)).length=1+x.ints%3:=Dq _ _
 have hVl:V.length=jx:=by rw[hV,nK]
 refine Jz 6 ?_
 refine Jcp rfl ?_ ?_<;>intro aCy
 refine Jz 7 ?_
 refine Jr (Ga (i:=14) (j:=jx) rfl rfl rfl s37 rfl (Ea om)) ?_
 refine Jr (Ck (i:=14) rfl rfl c9 rfl (Dc (rwg Ec (Ea om)) rfl)) ?_
 refine Jz 9 ?_
 refine Jr (.bd [.string (nm 120 jx),iv 1,nv jx]) ?_
 refine Eg [.string (nm 120 jx),iv 1,nv jx] fun b149=>?_
 refine Jge rfl rfl rfl (Bg jH (i:=16) (j:=0) (el:=(⟨nm 120 jx,1,((jx:Nat):Int)⟩:Vr)) rfl s94 rfl rfl rfl rfl rfl om om) ?_
 rintro _ _ ⟨A150,q150,rfl,rfl⟩
 refine Jz 10 ?_
 refine Cg ⟨⟨A150,q150,(V++[(⟨nm 120 jx,1,((jx:Nat):Int)⟩:Vr)]),jx+1,rfl,rfl,rfl,om,(by rw[hV,yJ])⟩,sb⟩
 refine Jz 6 ?_
 have hnx:(nms 120 (1+x.ints%3)).length=1+x.ints%3:=Dq _ _
 have hjn:jx=1+x.ints%3:=om
 rw[hjn]at hV
 refine Jz 3 ?_
 refine Jr (.bd [.string nB0,iv 2,iv 0]) ?_
 refine Eg [.string nB0,iv 2,iv 0] fun b156=>?_
 refine Jge rfl rfl rfl (Bg jH (i:=16) (j:=0) (el:=(⟨nB0,2,0⟩:Vr)) rfl s94 rfl rfl rfl rfl rfl om om) ?_
 rintro _ _ ⟨A157,q157,rfl,rfl⟩
 refine Jz 9 ?_
 refine Jr (Ke (a:=x.tables) (b:=2) rfl rfl rfl om) ?_
 refine Jr (Fv rfl rfl underlying5 underlying3 (IntWalk.i64_in _ om)) ?_
 refine Jqf (Gq 116 (x.tables%2) om om) rfl (ocn _) ?_
 rintro _ _ ⟨Ant,qnt,rfl,rfl,_⟩
 refine⟨rfl,?_⟩
 refine Jz 5 ?_
 have hV0:V++[(⟨nB0,2,0⟩:Vr)]=dW (1+x.ints%3)++[⟨nB0,2,0⟩]++kJ 0:=by rw[hV];exact(aEz _).symm
 refine Cw (fun s g mz ρ Γ=>∃(Av:OA) (qv:Nat) (V:List Vr) (jt:Nat),ρ=[s 1,s 2,s 5,s 8,s 10,s 120,s 121,s 122,s 13,s 14,s 15,s 163,s 164,(165,nv jt)]∧Γ=[g 2,g 3,g 4,g 5,g 6,g 7,g 8,g 9,g 10,g 11,g 12,g 13,g 14,box b15 [.string (nC k),vs Av V qv,nz] 97,g 0,rows Oj 113 3 Av qv V]∧mz=x.tables%2-jt∧(jt≤x.tables%2)∧(V=dW (1+x.ints%3)++[⟨nB0,2,0⟩]++kJ jt)) ⟨⟨A157,q157,(V++[(⟨nB0,2,0⟩:Vr)]),0,rfl,rfl,rfl,om,hV0⟩,sb⟩ ?_
 rintro mz _ _ ⟨Av,qv,V,jt,rfl,rfl,rfl,hjt,hV⟩
 have hnt:(nms 116 (x.tables%2)).length=x.tables%2:=Dq _ _
 have hVl:V.length=2+x.ints%3+jt:=by rw[hV];simp only[lap,lc1,ln0,nK,GA];omega
 refine Jz 6 ?_
 refine Jcp rfl ?_ ?_<;>intro c166
 refine Jz 6 ?_
 refine Jr (Ga (i:=14) (j:=jt) rfl rfl rfl s37 rfl (Ea om)) ?_
 refine Jr (Ck (i:=14) rfl rfl c9 rfl (Dc (rwg Ec (Ea om)) rfl)) ?_
 refine Jz 7 ?_
 refine Jr (.bd [.string (nm 116 jt),iv 3,iv 0]) ?_
 refine Eg [.string (nm 116 jt),iv 3,iv 0] fun b173=>?_
 refine Jge rfl rfl rfl (Bg jH (i:=16) (j:=0) (el:=(⟨nm 116 jt,3,0⟩:Vr)) rfl s94 rfl rfl rfl rfl rfl om om) ?_
 rintro _ _ ⟨A174,q174,rfl,rfl⟩
 refine Jz 10 ?_
 refine Ot [(1,pv b1),(2,pv b2),(5,pv b5),(8, .slice (some ⟨b61,0,none⟩) 3 3),(10,vs Aa O3 qa),(120,vs Pa L qp),(121,nv L.length),(122,nv k),(13,nv k),(14,pv b14),(15,pv b15),(163,vs Ant (nms 116 (x.tables%2)) qnt),(164,nv ((nms 116 (x.tables%2)).length)),(165,nv ((jt+1)))] sb (Du ?_)
 refine Jag (x.tables%2-(jt+1)) om ⟨A174,q174,(V++[(⟨nm 116 jt,3,0⟩:Vr)]),jt+1,rfl,rfl,rfl,om,(by
  have h0:jt=0:=om
  subst h0
  rw[hV,yK,←aFb];rfl)⟩
 refine Jz 6 ?_
 have hnt:(nms 116 (x.tables%2)).length=x.tables%2:=Dq _ _
 have hjn:jt=x.tables%2:=om
 have hVV:V=varsOf (1+x.ints%3) (x.tables%2):=by rw[hV,hjn];rfl
 refine Jz 3 ?_
 refine Jr (Ke (a:=x.ints) (b:=3) rfl rfl rfl om) ?_
 refine Jr (Fv rfl rfl underlying5 underlying3 (IntWalk.i64_in _ om)) ?_
 refine Jr (Ns (a:=1) (b:=(x.ints%3)) rfl rfl rfl om) ?_
 refine Jz 2 ?_
 refine Jr (Ke (a:=x.tables) (b:=2) rfl rfl rfl om) ?_
 refine Jr (Fv rfl rfl underlying5 underlying3 (IntWalk.i64_in _ om)) ?_
 refine Jz 5 ?_
 refine Jr (.bd [nv (1+x.ints%3),nv (x.tables%2),nv Fs.length,nv k,vs Aa O3 qa,iv 0,nz,iv 0]) ?_
 refine Jal fun b20=>?_
 refine Jz 4 ?_
 refine Jfw [] [0,2,103,4,305,101,6,7] (ocn _) ?_
 refine Jz 4 ?_
 refine Fw.qf (jJ x.hs.length 3) (ocn _) ?_
 refine Jz 1 ?_
 refine Fw.f rfl (Cr (v':= .slice x.Ah (x.hs.take 3).length x.qh) (congrArg (fun z=>Value.slice x.Ah z x.qh) (by rw[aEe];omega)) (Eo (hi:=min x.hs.length 3) rfl WQ rfl rfl om)) ?_
 refine Jz 11 ?_
 refine Ru (T:=(OA)×(Nat)×(List Cd)) (fun t=>([(1,pv b1),(2,pv b2),(5,pv b5),(8, .slice (some ⟨b61,0,none⟩) 3 3),(10,vs Aa O3 qa),(120,vs Pa L qp),(121,nv L.length),(122,nv k),(13,nv k),(14,pv b14),(15,pv b15),(20,pv b20),(21, .slice (t.1) (t.2.2).length (t.2.1))],[box b1 (cL p []) 25,box b2 [.string bE,nz,nz,nz] 36,all p.kids,ros Sy Pa L,all (List.flatMap Pt.kids L),rows aMb 9 1 (some ⟨b61,0,none⟩) 3 ([nC 0,nC 1,nC 2]:List ByteArray),box b5 [.string (aLy [102,108,101,101,116,49]),vs Af Fs qf,vs Al Ls ql,vs Ac O4 qc] 36,rows Gx 152 2 Af qf Fs,rows Lb 154 3 Al ql Ls,all (arsK Aa O3),rows Jl 97 3 Ac qc O4,all (List.flatMap (Cm.kids eR) O4),box b14 [.int .u8 ((x.ints:Nat):Int), .int .u8 ((x.tables:Nat):Int),vs x.Ah x.hs x.qh,vs x.As x.sec x.qs] 149,box b15 [.string (nC k),vs Av V qv,nz] 97,rows Oj 113 3 Av qv V,box b20 [nv (1+x.ints%3),nv (x.tables%2),nv Fs.length,nv k,vs Aa O3 qa,iv 0,nz,iv 0] 158,ros Mm (t.1) (t.2.2),all (List.flatMap Cd.kids (t.2.2))])) (fun t=>((t.2.2).length=max 1 (min 3 x.hs.length))∧(∀y∈(t.2.2),y.Ok)∧((t.2.2).length≤(t.2.1))) ?_ ?_
 refine Jcp rfl ?_ ?_<;>intro c201
 refine To.g (Jr (.bd [.int .u8 1,nz]) ?_)
 refine Eg [.int .u8 1,nz] fun b203=>?_
 refine Jz 3 ?_
 refine YB (Lv ((some ⟨b203,0,none⟩),1,[Cd1]) ⟨(show 1=max 1 (min 3 x.hs.length) by rw[aEe]at c201;omega),(fun x hx=>by rw[aEr.1 hx];exact Cd1.ok),(aEu _)⟩)
 refine Jsp (Jt (MX hx 5 rfl (Lv (x.Ah,x.qh,(x.hs.take 3)) ⟨(by rw[aEe]at c201⊢;omega),(fun y hy=>hxk.hk y (aFy hy)),(show(x.hs.take 3).length≤x.qh by rw[aEe];omega)⟩)))
 rintro⟨Ah2,qh2,cs⟩ ⟨hcs,hck,hcq⟩
 replace hcs:cs.length=max 1 (min 3 x.hs.length):=hcs
 replace hck:∀y∈cs,y.Ok:=hck
 replace hcq:cs.length≤qh2:=hcq
 dsimp only
 refine Js (Cz (Ik) 161 1 (TB (Mg (c:=ros Gw none []) rfl rfl (Vz _) (To.nm (Ot [(1,pv b1),(2,pv b2),(5,pv b5),(8, .slice (some ⟨b61,0,none⟩) 3 3),(10,vs Aa O3 qa),(120,vs Pa L qp),(121,nv L.length),(122,nv k),(13,nv k),(14,pv b14),(15,pv b15),(20,pv b20),(21,vs Ah2 cs qh2)] sb (Ru (T:=(OA)×(Nat)×(List Hd)×(OA)×(Nat)×(Nat)×(OA)×(Nat)×(List Nat)×(Nat)) (fun t=>([(1,pv b1),(2,pv b2),(5,pv b5),(8, .slice (some ⟨b61,0,none⟩) 3 3),(10,vs Aa O3 qa),(120,vs Pa L qp),(121,nv L.length),(122,nv k),(13,nv k),(14,pv b14),(15,pv b15),(20,pv b20)],[box b1 (cL p []) 25,box b2 [.string bE,nz,nz,nz] 36,all p.kids,ros Sy Pa L,all (List.flatMap Pt.kids L),rows aMb 9 1 (some ⟨b61,0,none⟩) 3 ([nC 0,nC 1,nC 2]:List ByteArray),box b5 [.string (aLy [102,108,101,101,116,49]),vs Af Fs qf,vs Al Ls ql,vs Ac O4 qc] 36,rows Gx 152 2 Af qf Fs,rows Lb 154 3 Al ql Ls,all (arsK Aa O3),rows Jl 97 3 Ac qc O4,all (List.flatMap (Cm.kids eR) O4),box b14 [.int .u8 ((x.ints:Nat):Int), .int .u8 ((x.tables:Nat):Int),vs x.Ah x.hs x.qh,vs x.As x.sec x.qs] 149,box b15 [.string (nC k),vs Av V qv,vs (t.2.2.2.1) (([]:List Vs)++[(⟨(t.1),(t.2.1),(t.2.2.1)⟩:Vs)]) (t.2.2.2.2.1)] 97,rows Oj 113 3 Av qv V,box b20 [nv (1+x.ints%3),nv (x.tables%2),nv Fs.length,nv k,vs Aa O3 qa,nv ((t.2.2.2.2.2.1)), .slice (t.2.2.2.2.2.2.1) (t.2.2.2.2.2.2.2.2.1).length (t.2.2.2.2.2.2.2.1),nv ((t.2.2.2.2.2.2.2.2.2))] 158,ros Gw (t.2.2.2.2.2.2.1) (t.2.2.2.2.2.2.2.2.1),rows Ik 161 1 (t.2.2.2.1) (t.2.2.2.2.1) (([]:List Vs)++[(⟨(t.1),(t.2.1),(t.2.2.1)⟩:Vs)]),all (List.flatMap (Vs.kids eR) (([]:List Vs)++[(⟨(t.1),(t.2.1),(t.2.2.1)⟩:Vs)]))])) (fun t=>(∀i h,((t.2.2.1).map Hd.pure)[i]?=some h→Xr ⟨1+x.ints%3,x.tables%2,Fs.length,k,O3.map Ar.l⟩ a.l i h)∧((t.2.2.1).length=cs.length)∧(okB (t.2.2.2.2.2.2.2.2.1) (t.2.2.2.2.2.2.2.1))) ?_ ?_))))))
 refine Ki (tel []) mixed.h (Hy 1 3 rfl (by kernel_rfl) ?_ ?_)
 refine Lc [] [0,2,503,101,204,5505,6,507] (ocn _) ?_
 refine Jz 2 ?_
 refine Da [18,0,11,16,16] (Td b20 ⟨1+x.ints%3,x.tables%2,Fs.length,k,Aa,qa,O3,0⟩ hct a ha Ah2 qh2 cs om hck none 0 [] 0 ⟨fun x h=>(by cases h),aEu _⟩) ?_
 rintro _ _ ⟨Oh,Aoh,qoh,nph,Bh,qh,blh,lefth,rfl,rfl,hh,hhn,hbh⟩
 refine⟨ocn _,?_⟩
 refine Jz 1 ?_
 refine Es [vs Aoh Oh qoh] fun b208=>?_
 refine Fw.ge rfl rfl rfl rfl (Bg Vy (i:=6) (j:=0) (el:=(⟨Aoh,qoh,Oh⟩:Vs)) rfl s95 rfl rfl rfl rfl rfl om om) ?_
 rintro _ _ ⟨A209,q209,rfl,rfl⟩
 refine⟨ocn _,?_⟩
 refine Jz 1 ?_
 refine Fw.up rfl rfl rfl (Up.store (i:=19) rfl rfl rfl c95 rfl rfl (bt1 rfl)) (ocn _) ?_
 refine Jz 2 ?_
 refine Nz (Nz (fK ([]:List Vs) (⟨Aoh,qoh,Oh⟩:Vs) (Lv (Aoh,qoh,Oh,A209,q209,nph,Bh,qh,blh,lefth) ⟨hh,hhn,hbh⟩)))
 refine Lc [] [0,2,101,503,204,5505,6,507] (ocn _) ?_
 refine Jz 3 ?_
 refine Da [18,0,11,16,16] (Td b20 ⟨1+x.ints%3,x.tables%2,Fs.length,k,Aa,qa,O3,0⟩ hct a ha Ah2 qh2 cs om hck none 0 [] 0 ⟨fun x h=>(by cases h),aEu _⟩) ?_
 rintro _ _ ⟨Oh_2,Aoh_2,qoh_2,nph_2,Bh_2,qh_2,blh_2,lefth_2,rfl,rfl,hh_2,hhn_2,hbh_2⟩
 refine⟨ocn _,?_⟩
 refine Es [vs Aoh_2 Oh_2 qoh_2] fun b208_2=>?_
 refine Fw.ge rfl rfl rfl rfl (Bg Vy (i:=6) (j:=0) (el:=(⟨Aoh_2,qoh_2,Oh_2⟩:Vs)) rfl s95 rfl rfl rfl rfl rfl om om) ?_
 rintro _ _ ⟨A209_2,q209_2,rfl,rfl⟩
 refine⟨ocn _,?_⟩
 refine Jz 1 ?_
 refine Fw.up rfl rfl rfl (Up.store (i:=19) rfl rfl rfl c95 rfl rfl (bt1 rfl)) (ocn _) ?_
 refine Jz 2 ?_
 refine Nz (Nz (fK ([]:List Vs) (⟨Aoh_2,qoh_2,Oh_2⟩:Vs) (Lv (Aoh_2,qoh_2,Oh_2,A209_2,q209_2,nph_2,Bh_2,qh_2,blh_2,lefth_2) ⟨hh_2,hhn_2,hbh_2⟩)))
 rintro⟨Aoh,qoh,Oh,Aw,qw,np1,Bh,qh,blh,lefth⟩ ⟨hh,hhn,hbh⟩
 replace hh:∀i h,(Oh.map Hd.pure)[i]?=some h→Xr ⟨1+x.ints%3,x.tables%2,Fs.length,k,O3.map Ar.l⟩ a.l i h:=hh
 replace hhn:Oh.length=cs.length:=hhn
 replace hbh:okB blh qh:=hbh
 dsimp only
 refine Jz 9 ?_
 refine Ru (T:=(OA)×(Nat)×(List Vs)) (fun t=>([(1,pv b1),(2,pv b2),(5,pv b5),(8, .slice (some ⟨b61,0,none⟩) 3 3),(10,vs Aa O3 qa),(120,vs Pa L qp),(121,nv L.length),(122,nv k),(13,nv k),(15,pv b15)],[box b1 (cL p []) 25,box b2 [.string bE,nz,nz,nz] 36,all p.kids,ros Sy Pa L,all (List.flatMap Pt.kids L),rows aMb 9 1 (some ⟨b61,0,none⟩) 3 ([nC 0,nC 1,nC 2]:List ByteArray),box b5 [.string (aLy [102,108,101,101,116,49]),vs Af Fs qf,vs Al Ls ql,vs Ac O4 qc] 36,rows Gx 152 2 Af qf Fs,rows Lb 154 3 Al ql Ls,all (arsK Aa O3),rows Jl 97 3 Ac qc O4,all (List.flatMap (Cm.kids eR) O4),box b15 [.string (nC k),vs Av V qv, .slice (t.1) (t.2.2).length (t.2.1)] 97,rows Oj 113 3 Av qv V,rows Ik 161 1 (t.1) (t.2.1) (t.2.2),all (List.flatMap (Vs.kids eR) (t.2.2))])) (fun t=>(Uy Fs.length (O3.map Ar.l) k (Cm.pure ⟨nC k,Av,qv,V,(t.1),(t.2.1),(t.2.2)⟩))) ?_ ?_
 refine Jcp rfl ?_ ?_<;>intro aDg
 have hn2:(x.sec.take 3).length=min 3 x.sec.length:=aEe ..
 refine FW hx 4 rfl (To.nm (Ot [(1,pv b1),(2,pv b2),(5,pv b5),(8, .slice (some ⟨b61,0,none⟩) 3 3),(10,vs Aa O3 qa),(120,vs Pa L qp),(121,nv L.length),(122,nv k),(13,nv k),(14,pv b14),(15,pv b15),(20,pv b20)] sb (Ki (tel [(7,(LeR x.sec.length 3))]) mixed.h (Hy 1 9 rfl (by kernel_rfl) ?_ ?_))))
 refine Lc [] [0,2,4,105,6,407,103,8008,8509,101,210,11511,12,513] (ocn _) ?_
 refine Jz 5 ?_
 refine Fw.tf (nM x.sec.length 3) (ocn _) (fun _ _ h=>by obtain⟨_,_,_,rfl⟩:=h;rfl) ?_
 rintro _ _ ⟨rfl,rfl⟩
 refine Jz 1 ?_
 refine Fw.f rfl (Cr (v':= .slice x.As (x.sec.take 3).length x.qs) (congrArg (fun z=>Value.slice x.As z x.qs) (by rw[aEe];omega)) (Eo (hi:=min x.sec.length 3) rfl WQ rfl rfl om)) ?_
 refine Da [18,18,12,1,0] (Td b20 ⟨1+x.ints%3,x.tables%2,Fs.length,k,Aa,qa,O3,np1⟩ hct a ha x.As x.qs (x.sec.take 3) (by rw[aEe];omega) (fun y hy=>hxk.sk y (aFy hy)) Bh qh blh lefth hbh) ?_
 rintro _ _ ⟨Oh_3,Aoh_3,qoh_3,nph_3,Bh_3,qh_3,blh_3,lefth_3,rfl,rfl,hh_3,hhn_3,hbh_3⟩
 refine⟨ocn _,?_⟩
 refine Jz 1 ?_
 refine Es [vs Aoh_3 Oh_3 qoh_3] fun b225=>?_
 refine Fw.ge rfl rfl rfl rfl (Bg Vy (i:=20) (j:=0) (el:=(⟨Aoh_3,qoh_3,Oh_3⟩:Vs)) rfl s95 rfl rfl rfl rfl rfl om om) ?_
 rintro _ _ ⟨A226,q226,rfl,rfl⟩
 refine⟨ocn _,?_⟩
 refine Jz 1 ?_
 refine Fw.up rfl rfl rfl (Up.store (i:=18) rfl rfl rfl c95 rfl rfl (bt1 rfl)) (ocn _) ?_
 refine Jz 2 ?_
 refine UQ (Nz (fK (([]:List Vs)++[(⟨Aoh,qoh,Oh⟩:Vs)]) (⟨Aoh_3,qoh_3,Oh_3⟩:Vs) (Lv (A226,q226,(([]:List Vs)++[(⟨Aoh,qoh,Oh⟩:Vs)]++[(⟨Aoh_3,qoh_3,Oh_3⟩:Vs)])) (nL (c:=(⟨nC k,Av,qv,V,A226,q226,([]:List Vs)++[(⟨Aoh,qoh,Oh⟩:Vs)]++[(⟨Aoh_3,qoh_3,Oh_3⟩:Vs)]⟩:Cm)) rfl (ints:=1+x.ints%3) (tables:=x.tables%2) om om (ar:=Yt x) (by rw[aEp,ha];exact congrArg some hal) hVV rfl (by rw[←hal];exact⟨hh,hhn⟩) (by rw[←hal];exact⟨hh_3,hhn_3⟩) om om (by rw[Tz];omega)))))
 refine Lc [] [0,2,4,105,6,407,101,103,8008,8509,210,11511,12,513] (ocn _) ?_
 refine Jz 5 ?_
 refine Fw.tf (nM x.sec.length 3) (ocn _) (fun _ _ h=>by obtain⟨_,_,_,rfl⟩:=h;rfl) ?_
 rintro _ _ ⟨rfl,rfl⟩
 refine Jz 2 ?_
 refine Fw.f rfl (Cr (v':= .slice x.As (x.sec.take 3).length x.qs) (congrArg (fun z=>Value.slice x.As z x.qs) (by rw[aEe];omega)) (Eo (hi:=min x.sec.length 3) rfl WQ rfl rfl om)) ?_
 refine Da [18,18,12,1,0] (Td b20 ⟨1+x.ints%3,x.tables%2,Fs.length,k,Aa,qa,O3,np1⟩ hct a ha x.As x.qs (x.sec.take 3) (by rw[aEe];omega) (fun y hy=>hxk.sk y (aFy hy)) Bh qh blh lefth hbh) ?_
 rintro _ _ ⟨Oh_4,Aoh_4,qoh_4,nph_4,Bh_4,qh_4,blh_4,lefth_4,rfl,rfl,hh_4,hhn_4,hbh_4⟩
 refine⟨ocn _,?_⟩
 refine Es [vs Aoh_4 Oh_4 qoh_4] fun b225_2=>?_
 refine Fw.ge rfl rfl rfl rfl (Bg Vy (i:=20) (j:=0) (el:=(⟨Aoh_4,qoh_4,Oh_4⟩:Vs)) rfl s95 rfl rfl rfl rfl rfl om om) ?_
 rintro _ _ ⟨A226_2,q226_2,rfl,rfl⟩
 refine⟨ocn _,?_⟩
 refine Jz 1 ?_
 refine Fw.up rfl rfl rfl (Up.store (i:=18) rfl rfl rfl c95 rfl rfl (bt1 rfl)) (ocn _) ?_
 refine Jz 2 ?_
 refine UQ (Nz (fK (([]:List Vs)++[(⟨Aoh,qoh,Oh⟩:Vs)]) (⟨Aoh_4,qoh_4,Oh_4⟩:Vs) (Lv (A226_2,q226_2,(([]:List Vs)++[(⟨Aoh,qoh,Oh⟩:Vs)]++[(⟨Aoh_4,qoh_4,Oh_4⟩:Vs)])) (nL (c:=(⟨nC k,Av,qv,V,A226_2,q226_2,([]:List Vs)++[(⟨Aoh,qoh,Oh⟩:Vs)]++[(⟨Aoh_4,qoh_4,Oh_4⟩:Vs)]⟩:Cm)) rfl (ints:=1+x.ints%3) (tables:=x.tables%2) om om (ar:=Yt x) (by rw[aEp,ha];exact congrArg some hal) hVV rfl (by rw[←hal];exact⟨hh,hhn⟩) (by rw[←hal];exact⟨hh_4,hhn_4⟩) om om (by rw[Tz];omega)))))
 refine Jsp (Jt (Lv (Aw,qw,(([]:List Vs)++[(⟨Aoh,qoh,Oh⟩:Vs)])) (GD (c:=(⟨nC k,Av,qv,V,Aw,qw,([]:List Vs)++[(⟨Aoh,qoh,Oh⟩:Vs)]⟩:Cm)) rfl (ints:=1+x.ints%3) (tables:=x.tables%2) om om (ar:=Yt x) (by rw[aEp,ha];exact congrArg some hal) hVV rfl (by rw[←hal];exact⟨hh,hhn⟩) om (by rw[Tz];omega))))
 rintro⟨Aw2,qw2,WL⟩ hGC
 replace hGC:Uy Fs.length (O3.map Ar.l) k (Cm.pure ⟨nC k,Av,qv,V,Aw2,qw2,WL⟩):=hGC
 dsimp only
 refine Jz 4 ?_
 refine Eg [.string (nC k),vs Av V qv,vs Aw2 WL qw2] fun b231=>?_
 refine Jge rfl rfl rfl (Bg BB (i:=11) (j:=0) (el:=(⟨nC k,Av,qv,V,Aw2,qw2,WL⟩:Cm)) rfl s34 rfl rfl rfl rfl rfl om om) ?_
 rintro _ _ ⟨A232,q232,rfl,rfl⟩
 refine Jz 10 ?_
 refine Su (JG (JG (JG (FY O4 (⟨nC k,Av,qv,V,Aw2,qw2,WL⟩:Cm) (Cg ⟨⟨A232,q232,(O4++[(⟨nC k,Av,qv,V,Aw2,qw2,WL⟩:Cm)]),k+1,rfl,rfl,rfl,om,(by rw[lap,hO4l];rfl),(FZ hO4 (by rw[hO4l];exact hGC))⟩,sb⟩)))))
 refine Jz 12 ?_
 refine Pq (Pq (Ux (Ux (To.fl (⟨(aLy [102,108,101,101,116,49]),Af,qf,Fs,Al,ql,Ls,Ac,qc,O4⟩:Fl) (Gf [0] results23 ?_)))))
 have hnl:(nms 102 (p.flags%3)).length=p.flags%3:=Dq _ _
 have hk2:k=L.length:=om
 have hcl:(O4.map Cm.pure).length=L.length:=by rw[aEg];omega
 have hlk:=hLs.good hkl hL.2
 rw[←hcl]at hlk
 exact⟨(⟨(aLy [102,108,101,101,116,49]),Af,qf,Fs,Al,ql,Ls,Ac,qc,O4⟩:Fl),rfl,rfl,rfl,⟨show Fs.length≤2 by omega,show Fs.map Fg.name=nms 102 Fs.length by rw[hF,hFl]⟩,hlk,O3.map Ar.l,hars,by show(O4.map Cm.pure).length=_;rw[hcl,hO3c,aEg],hO4⟩
end Go.Proofs.YtlihklladkagpaaGreatDoor

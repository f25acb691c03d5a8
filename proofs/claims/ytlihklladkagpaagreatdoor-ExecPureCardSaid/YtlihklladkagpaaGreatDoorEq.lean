/- Own text. -/
import Derived.Test.YtlihklladkagpaaGreatDoorXh
set_option linter.unusedVariables false
set_option linter.unusedSimpArgs false
namespace Go.Proofs.YtlihklladkagpaaGreatDoor
open Go.RowKit Go.Flow Go.Mem Go.Sep Go.In
def nxC(c:Nat)(x:Ins):Nat:=if x.op=29 then 1 else if x.op≤23 then c else 0
def crd(l:List Ins):Nat:=l.foldl nxC 0
def isDk(x:Ins):Prop:=x.op=32∨x.op=33
def CrL(L:List Ins)(i n:Nat):Prop:=∀k,i≤k→k<i+n→∀x,L[k]?=some x→(isDk x→crd (L.take k)=1)∧∀t,tgt x=some t→∃j:Nat,j≤L.length∧t=(j:Int)∧crd (L.take j)=0
theorem CrL.nil{L:List Ins}{i:Nat}:CrL L i 0:=fun k h1 h2=>by omega
theorem CrL.add{L:List Ins}{i a b:Nat}(h:CrL L i a)(k:CrL L (i+a) b):CrL L i (a+b):=fun n h1 h2 x hx=>by
 by_cases e:n<i+a
 ·exact h n h1 e x hx
 ·exact k n om om x hx
theorem CrL.one{L:List Ins}{i:Nat}{x:Ins}(hx:L[i]?=some x)(h1:isDk x→crd (L.take i)=1)(h2:∀t,tgt x=some t→∃j:Nat,j≤L.length∧t=(j:Int)∧crd (L.take j)=0):CrL L i 1:=fun k a b y hy=>by
 obtain rfl:k=i:=om
 rw[hx]at hy
 obtain rfl:=Option.some.inj hy
 exact⟨h1,h2⟩
theorem mid_get{A l B:List Ins}{k:Nat}{x:Ins}(h1:A.length≤k)(h2:k<A.length+l.length)(hx:(A++(l++B))[k]?=some x):x∈l:=by
 rw[List.getElem?_append_right h1,List.getElem?_append_left om]at hx
 exact mog hx
theorem CrL.low{A l B:List Ins}(h:∀x∈l,x.op≤23∨x.op=29):CrL (A++(l++B)) A.length l.length:=fun k a b x hx=>by
 have hm:=h x (mid_get a b hx)
 refine⟨fun hd=>by unfold isDk at hd;omega,fun t ht=>?_⟩
 unfold tgt at ht
 rw[if_neg om,if_neg om]at ht
 cases ht
section
variable{c:Cc}(hc:c.Loads)
include hc
end
def Paid(l:List Ins):Prop:=∀k x,l[k]?=some x→(isDk x→crd (l.take k)=1)∧∀t,tgt x=some t→∃j:Nat,j≤l.length∧t=(j:Int)∧crd (l.take j)=0
def dkN(l:List EfV):Nat:=(l.filter fun e=>decide (e.k=3∨e.k=4)).length
def sdN(l:List EfV):Nat:=(l.filter fun e=>decide (e.k=1∨e.k=2)).length
theorem dkN_snoc(l:List EfV)(e:EfV):dkN (l++[e])=dkN l+(if e.k=3∨e.k=4 then 1 else 0):=by
 unfold dkN
 rw[List.filter_append,lap]
 by_cases h:e.k=3∨e.k=4<;>simp[h]
theorem sdN_snoc(l:List EfV)(e:EfV):sdN (l++[e])=sdN l+(if e.k=1∨e.k=2 then 1 else 0):=by
 unfold sdN
 rw[List.filter_append,lap]
 by_cases h:e.k=1∨e.k=2<;>simp[h]
structure InvB(L:List Ins)(d:Dv):Prop where
 dk:((dkN d.effs:Nat):Int)≤d.cost
 paid:d.next<(L.length:Int)→((dkN d.effs+crd (L.take d.next.toNat):Nat):Int)≤d.cost
 sent:((sdN d.effs:Nat):Int)=d.sends
 nof:∀e∈d.effs,e.k≠5
 flt:d.fault=false
structure FinB(d:Dv):Prop where
 cost:0≤d.cost∧d.cost≤200
 dk:((dkN d.effs:Nat):Int)≤d.cost
 sent:sdN d.effs≤8
 last:∀i e,d.effs[i]?=some e→e.k=5→i+1=d.effs.length
 tabs:∀t∈d.tabs,t.length≤16
 disk:d.disk.length≤16
 len:d.effs.length≤1048577
 tl:d.tabs.length≤1000
theorem FinB.stop{d:Dv}(h1:0≤d.cost∧d.cost≤200)(h2:((dkN d.effs:Nat):Int)≤d.cost)(h3:sdN d.effs≤8)(h4:∀e∈d.effs,e.k≠5)(h5:∀t∈d.tabs,t.length≤16)(h6:d.disk.length≤16)(h7:d.effs.length≤1048576)(h8:d.tabs.length≤1000):FinB (stopV d):=by
 refine⟨h1,by show((dkN (d.effs++[faultE]):Nat):Int)≤d.cost;rw[dkN_snoc,if_neg (by decide)];exact h2,by show sdN (d.effs++[faultE])≤8;rw[sdN_snoc,if_neg (by decide)];exact h3,fun i e hi hk=>?_,h5,h6,by show(d.effs++[faultE]).length≤_;rw[lap];show d.effs.length+1≤_;omega,h8⟩
 have hi:(d.effs++[faultE])[i]?=some e:=hi
 show i+1=(d.effs++[faultE]).length
 rw[lap]
 by_cases hl:i<d.effs.length
 · rw[List.getElem?_append_left hl]at hi
   exact absurd hk (h4 e (mog hi))
 · have:=(List.getElem?_eq_some_iff.1 hi).1
   rw[lap]at this
   show i+1=d.effs.length+1
   have:i<d.effs.length+1:=this
   omega
section
variable{s:Sm}{T:List Int}{nv' nt:Nat}
end
theorem fit_each{c:Ct}{np n:Nat}:Each c np (fun x=>referB x (c.ints+1) c.tables c.flags=true)∧EachJ n c.ints (fun x=>referB x (c.ints+1) c.tables c.flags=true):=by
 refine⟨⟨fun k _ _=>?_,fun op ho=>?_,fun k hk=>?_,fun k hk=>?_,fun k hk=>?_,fun k hk=>?_,fun op ht ho=>?_,fun to h k h1 h2 h3=>?_,fun h k h1 h2=>?_⟩,⟨fun op t ho ht=>?_,fun t ht=>?_,fun k t hk ht=>?_⟩⟩
 ·simp[referB]
 ·unfold referB;rw[if_neg (by dsimp only;omega),if_neg (by dsimp only;omega),if_neg (by dsimp only;omega)]
 ·simp[referB];omega
 ·simp[referB]
 ·simp[referB];omega
 ·simp[referB];omega
 ·unfold referB;rw[if_neg (by dsimp only;omega),if_neg (by dsimp only;omega),if_pos (by dsimp only;omega)];exact decide_eq_true (by dsimp only;omega)
 ·simp[referB]
 ·simp[referB]
 ·unfold referB;rw[if_neg (by dsimp only;omega),if_neg (by dsimp only;omega),if_neg (by dsimp only;omega)]
 ·simp[referB]
 ·simp[referB];omega
theorem nVT_of{i t:Nat}(hi:i≤3)(ht:t≤1):nV (varsOf i t)=i+1∧nT (varsOf i t)=t:=by
 have h:∀i,i<4→∀t,t<2→nV (varsOf i t)=i+1∧nT (varsOf i t)=t:=by decide+kernel
 exact h i om t om
theorem fitR{F:Fl}(h:GoodF F.pure){ci:Nat}{c:Cm}(hc:F.comps[ci]?=some c){v:Vs}(hv:v∈c.vers){x:Hd}(hx:x∈v.l):∀i∈codeR F c x,referB i (nV c.vars) (nT c.vars) F.flags.length=true:=by
 obtain⟨ct,ar,ok⟩:=h.okC (pure_comp hc)
 have hgv:=ok.vers v.pure (List.mem_map.2 ⟨v,hv,rfl⟩)
 obtain⟨k,hk⟩:=List.getElem?_of_mem hx
 have gh:=hgv.2.2 k x.pure (by show(v.l.map Hd.pure)[k]?=_;rw[List.getElem?_map,hk];rfl)
 obtain⟨np,hnp,hps,hst⟩:=gh.ps
 have hnp2:np≤2:=(ok.ok.each ar (mog ok.arr)).2.2 np (mog hnp)
 have hps:x.ps=nms 112 np:=hps
 have hst:∀s∈St.pL x.body,StE ct np 3 s:=hst
 have his:(ccR F.pure c.name c.vars (nms 112 np)).Is ct np:=ok.isR hnp2
 have fe:=fit_each (c:=ct) (np:=np) (n:=(codeR F c x).length)
 have e1:codeR F c x=cB (ccR F.pure c.name c.vars (nms 112 np)) (St.pL x.body) 0:=by show cB (ccR F.pure c.name c.vars x.ps) _ _=_;rw[hps]
 have key:=cB_all (Q:=fun i=>referB i (ct.ints+1) ct.tables ct.flags=true) (n:=(codeR F c x).length) (St.pL x.body) 0 (cc:=ccR F.pure c.name c.vars (nms 112 np)) (fun s hs p hp=>(hst s hs).all ok.ok fe.1 fe.2 his p hp) (by rw[←e1];omega)
 rw[←e1]at key
 have hvs:c.vars=varsOf ct.ints ct.tables:=ok.vars
 have hn:=nVT_of ok.ok.ints.2 ok.ok.tables
 have hfl:F.flags.length=ct.flags:=by
  have h1:=congrArg List.length (show F.flags.map Fg.name=nms 102 ct.flags from ok.flags)
  rwa[List.length_map,nms_len]at h1
 rw[hvs,hn.1,hn.2,hfl]
 exact key
theorem sk_ref{F:Fl}(hG:GoodF F.pure){c:Cm}{k v:Nat}{s:ByteArray}(hc:F.comps[k]?=some c)(hv:1≤v∧v≤c.vers.length)(h:(fndV s none (c.vers.take v)).isSome=true):∀i∈(pU F c v s).l,referB i (nV c.vars) (nT c.vars) F.flags.length=true:=by
 obtain⟨x,hx⟩:=Option.isSome_iff_exists.1 h
 have e:pU F c v s=⟨true,x.ps.length,(heightsV (codeR F c x)).1,codeR F c x⟩:=by rw[pU_is hv,hx]
 obtain⟨v',hv',hxm⟩:=fnd_good hG hc hx
 rw[e]
 exact fitR hG hc hv' hxm
structure SkFit(U:RU)(a b n:Nat):Prop where
 fit:∀i∈U.l,referB i a b n=true
 paid:Paid U.l
theorem stV_good{a:Sx}{w:Wx}{mv nt:Nat}(h:a.val=stV w mv nt)(hnt:nt≤16):a.vars.length=mv∧a.tabs.length=nt∧(∀y∈a.tabs,Good y.l)∧Good a.dk.l:=by
 unfold Sx.val stV at h
 simp only[Prod.mk.injEq]at h
 obtain⟨h1,h2,h3⟩:=h
 refine⟨by rw[h1,pad_len],?_,fun y hy=>?_,?_⟩
 · have:=congrArg List.length h2
   rwa[List.length_map,tabs_len]at this
 · have h4:y.l∈a.tabs.map Tb.l:=List.mem_map.2 ⟨y,hy,rfl⟩
   rw[h2]at h4
   obtain⟨i,_,h5⟩:=List.mem_map.1 h4
   rw[←h5]
   exact Good.of (by rw[List.length_take];omega)
 ·rw[h3];exact Good.of (by rw[List.length_take];omega)
end Go.Proofs.YtlihklladkagpaaGreatDoor

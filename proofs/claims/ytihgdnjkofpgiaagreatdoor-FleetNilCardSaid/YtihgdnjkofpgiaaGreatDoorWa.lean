/- Merged out of W0, W1, W2, W3, W4p, W4, W5p, W5, W6p, W6, W7, M1p, M2p by merge.py. Own text. -/
import Derived.Test.YtihgdnjkofpgiaaGreatDoorVb
import Derived.Test.YtihgdnjkofpgiaaGreatDoorRb
import Derived.Test.YtihgdnjkofpgiaaGreatDoorH5
set_option linter.unusedVariables false
set_option linter.unusedSimpArgs false
set_option maxHeartbeats 2000000
set_option maxRecDepth 100000
namespace Go.Proofs.YtihgdnjkofpgiaaGreatDoor
open Go.RowKit Go.Flow Go.Mem Go.Sep Go.In
structure HN where
 A:Option Addr
 q:Nat
 l:List ByteArray
def encHN(e:HN):List Value:=[.slice e.A e.l.length e.q]
instance encHN_ok:Enc encHN 1:=⟨fun _=>rfl,fun e u hu=>by
 simp only[encHN,List.mem_cons,List.not_mem_nil,or_false]at hu
 subst hu;rfl⟩
structure Cp where
 Ah:Option Addr
 qh:Nat
 hs:List HN
 own:Nat
 Av:Option Addr
 qv:Nat
 vn:List ByteArray
 At:Option Addr
 qt:Nat
 tn:List ByteArray
 Af:Option Addr
 qf:Nat
 fn:List ByteArray
 Ap:Option Addr
 qp:Nat
 ps:List ByteArray
def hnAt(C:Cp)(i:Nat):List ByteArray:=((C.hs.map HN.l)[i]?).getD []
def Cp.cc(F:Fl)(C:Cp):Cc where
 pn s:=match ixF s 0 C.ps with|some k=>⟨3,(k:Int),0,0⟩|none=>match ixF s 0 C.vn with|some k=>⟨2,(k:Int),0,0⟩|none=>⟨4,oI (ixF s 0 C.fn),0,0⟩
 vs s:=oI (ixF s 0 C.vn)
 ts s:=oI (ixF s 0 C.tn)
 tg c h:=(oI (ixF c 0 (F.comps.map Cm.name)),oI (ixF h 0 (hnAt C (oI (ixF c 0 (F.comps.map Cm.name))).toNat)))
 ah h:=oI (ixF h 0 (hnAt C C.own))
def Cp.kids(F:Fl)(C:Cp):List Chunk:=ros encZ C.Ap C.ps::ros encZ C.Av C.vn::ros encZ C.At C.tn::ros encZ C.Af C.fn::ros encHN C.Ah C.hs::ros encC F.Ac F.comps::C.hs.map (fun h=>ros encZ h.A h.l)
theorem ros_lax{α:Type}{f:α→List Value}{A:Option Addr}{l:List α}:Lax [ros f A l]:=Lax.cons rfl Lax.nil
theorem map_flat{α β:Type}(f:α→β):∀l:List α,l.map f=l.flatMap fun x=>[f x]
 |[]=>rfl
 |x::r=>by rw[List.map_cons,List.flatMap_cons,map_flat f r];rfl
theorem Cp.lax(F:Fl)(C:Cp):Lax (C.kids F):=Lax.cons rfl (Lax.cons rfl (Lax.cons rfl (Lax.cons rfl (Lax.cons rfl (Lax.cons rfl (by rw[map_flat];exact Lax.flat fun h _=>ros_lax))))))
structure Cp.Low(F:Fl)(C:Cp):Prop where
 p:C.ps.length≤12
 v:C.vn.length≤12
 t:C.tn.length≤12
 f:C.fn.length≤12
 c:F.comps.length≤12
 h:C.hs.length=F.comps.length
 o:C.own<C.hs.length
 each:∀h∈C.hs,h.l.length≤12
section
variable{F:Fl}{C:Cp}
theorem Cp.ps_k:ros encZ C.Ap C.ps∈C.kids F:=List.mem_cons_self ..
end
structure PU where
 np:Nat
 st:Int
 A:Option Addr
 q:Nat
 l:List Ins
def zPU:PU:=⟨0,0,none,0,[]⟩
def encPU(u:PU):List Value:=[nv u.np, .int .i64 u.st, .slice u.A u.l.length u.q]
instance encPU_ok:Enc encPU 3:=⟨fun _=>rfl,fun e u hu=>by
 simp only[encPU,List.mem_cons,List.not_mem_nil,or_false]at hu
 rcases hu with rfl|rfl|rfl<;>rfl⟩
structure PV where
 A:Option Addr
 q:Nat
 l:List PU
def encPV(e:PV):List Value:=[.slice e.A e.l.length e.q]
instance encPV_ok:Enc encPV 1:=⟨fun _=>rfl,fun e u hu=>by
 simp only[encPV,List.mem_cons,List.not_mem_nil,or_false]at hu
 subst hu;rfl⟩
structure PB where
 A:Option Addr
 q:Nat
 l:List Bool
def encPB(e:PB):List Value:=[.slice e.A e.l.length e.q]
instance encPB_ok:Enc encPB 1:=⟨fun _=>rfl,fun e u hu=>by
 simp only[encPB,List.mem_cons,List.not_mem_nil,or_false]at hu
 subst hu;rfl⟩
def encBo(b:Bool):List Value:=[.bool b]
instance encBo_ok:Enc encBo 1:=⟨fun _=>rfl,fun e u hu=>by
 simp only[encBo,List.mem_cons,List.not_mem_nil,or_false]at hu
 subst hu;rfl⟩
structure PP where
 An:Option Addr
 qn:Nat
 names:List ByteArray
 Au:Option Addr
 qu:Nat
 us:List PV
 Af:Option Addr
 qf:Nat
 fs:List PB
def encPP(e:PP):List Value:=[.slice e.An e.names.length e.qn, .slice e.Au e.us.length e.qu, .slice e.Af e.fs.length e.qf]
instance encPP_ok:Enc encPP 3:=⟨fun _=>rfl,fun e u hu=>by
 simp only[encPP,List.mem_cons,List.not_mem_nil,or_false]at hu
 rcases hu with rfl|rfl|rfl<;>rfl⟩
def kUs(l:List PU):List Chunk:=l.flatMap fun u=>[ros Ins.cells u.A u.l]
def PV.kids(v:PV):List Chunk:=ros encPU v.A v.l::kUs v.l
def PP.kids(c:PP):List Chunk:=ros encZ c.An c.names::ros encPV c.Au c.us::ros encPB c.Af c.fs::(c.us.flatMap PV.kids++c.fs.flatMap fun b=>[ros encBo b.A b.l])
theorem kUs_lax(l:List PU):Lax (kUs l):=Lax.flat fun _ _=>ros_lax
theorem PV.lax(v:PV):Lax v.kids:=Lax.cons rfl (kUs_lax _)
section
variable{cc:Cc}{t e:List PS}{X Y1 Z1 WF:List Ins}
end
def Cp.at(C:Cp)(h:Hd):Cp:={C with Ap:=h.Ap,qp:=h.qp,ps:=h.ps}
structure CpOk(F:Fl)(ci:Nat)(c:Cm)(C:Cp):Prop where
 hs:C.hs.map HN.l=F.comps.map fun c=>hnames (c.vers.map Vs.pure)
 own:C.own=ci
 vn:C.vn=varN c.vars false
 tn:C.tn=varN c.vars true
 fn:C.fn=F.flags.map Fg.name
structure CodeOk(F:Fl)(c:Cm)(C:Cp)(x:Hd):Prop where
 eq:cB ((C.at x).cc F) (St.pL x.body) 0=codeR F c x
 ps:x.ps.length≤2
 len:(codeR F c x).length≤3816
 form:∀i∈codeR F c x,formedB ((x.ps.length:Nat):Int) (codeR F c x).length i=true
def puOf(F:Fl)(c:Cm)(x:Hd)(A:Option Addr)(q:Nat):PU:=⟨x.ps.length,(heightsV (codeR F c x)).1,A,q,codeR F c x⟩
theorem ros_nil0{Γ:List Chunk}{w:World}{α:Type}{enc:α→List Value}{size:Nat}(E:Enc enc size)(hp:0<size){A:Option Addr}{l:List α}(hA:A.isNone=true)(i:Nat)(h:Γ[i]?=some (ros enc A l))(hs:sat Γ w):l=[]:=by
 cases hl:l with
 |nil=>rfl
 | cons x r=>
   have:=ros_some E hp (A:=A) (l:=l) (by rw[hl];simp) i h hs
   rw[hA]at this;cases this
theorem cloneZ_fn(A:Option Addr)(q:Nat)(l:List ByteArray)(hl:l.length≤1000000):
    Does Tryz.prog 78 [.slice A l.length q] [ros encZ A l] (fun v Γ'=>∃B p,v= .slice B l.length p∧Γ'=[rows encZ 9 1 B p l]):=by
 refine Does.enter Tryz.func78 rfl Tryz.ntmps78 rfl (fun w0=>?_)
 refine To.z 9 ?_
 refine To.r (Rd.as (v':= .bool A.isNone) rfl (Rd.eqlSl (A:=A) rfl Tryz.underlying54 rfl rfl)) ?_
 refine To.n (To.t ?_)
 refine To.cond rfl (fun c4=>?_) (fun c4=>?_)
 refine To.s ?_
 refine To.know (p:=l=[]) (fun w hw=>ros_nil0 encZ_ok (by decide) c4 0 rfl hw) (fun hl0=>?_)
 subst hl0
 refine To.nilRow (enc:=encZ) (e:=9) (size:=1) ?_
 refine To.z 6 ?_
 refine To.only [0] rfl ?_
 refine To.end1 (.inl rfl) Tryz.results78 rfl ?_
 exact⟨_,_,rfl,rfl⟩
 refine To.z 4 ?_
 refine To.mk rfl rfl rfl (Mk.slice0R (enc:=encZ) rfl s54) ?_
 rintro _ _ ⟨A5,rfl,rfl⟩
 refine To.m ?_
 refine To.ge rfl rfl rfl (Ge.appendL encZ_ok (i:=0) (m:=l) rfl s54 rfl rfl rfl (src_ro (i:=1) rfl) (by first|omega|(simp;done)|(simp;omega)) (by first|omega|(simp;done)|(simp;omega))) ?_
 rintro _ _ ⟨A7,q7,rfl,rfl⟩
 refine To.z 4 ?_
 refine To.only [0] rfl ?_
 refine To.end1 (.inl rfl) Tryz.results78 rfl ?_
 exact⟨_,_,rfl,rfl⟩
structure Stl where
 own:Nat
 A1:Option Addr
 n1:Nat
 q1:Nat
 A2:Option Addr
 n2:Nat
 q2:Nat
 A3:Option Addr
 n3:Nat
 q3:Nat
 A4:Option Addr
 n4:Nat
 q4:Nat
 A5:Option Addr
 n5:Nat
 q5:Nat
def UAt(F:Fl)(c:Cm)(u:PU)(b:Bool):Option Hd→Prop
 |none=>u=zPU∧b=false
 |some h=>b=true∧∃A q,u=puOf F c h A q
structure UInv(F:Fl)(c:Cm)(names:List ByteArray)(o:ByteArray→Option Hd)(U:List PU)(B:List Bool):Prop where
 u:U.length=names.length
 b:B.length=names.length
 at_:∀(k:Nat) (s:ByteArray),names[k]?=some s→∃u b,U[k]?=some u∧B[k]?=some b∧UAt F c u b (o s)
section
variable{F:Fl}{c:Cm}{names:List ByteArray}{o o':ByteArray→Option Hd}{U:List PU}{B:List Bool}
theorem UInv.init:UInv F c names (fun _=>none) (List.replicate names.length zPU) (List.replicate names.length false):=⟨List.length_replicate ..,List.length_replicate ..,fun k s h=>by
 have hk:=(List.getElem?_eq_some_iff.1 h).1
 exact⟨zPU,false,by rw[List.getElem?_replicate,if_pos hk],by rw[List.getElem?_replicate,if_pos hk],rfl,rfl⟩⟩
theorem UInv.congr(h:UInv F c names o U B)(e:∀s,o' s=o s):UInv F c names o' U B:=by
 obtain rfl:o'=o:=funext e
 exact h
theorem UInv.step{nn m:Nat}{y:Hd}{A:Option Addr}{q:Nat}(h:UInv F c names o U B)(hn:names=nms 104 nn)(hnn:nn≤3)(hy:y.name=nm 104 m)(hm:m<nn)(e:∀s,o' s=if y.name=s then some y else o s):UInv F c names o' (U.set m (puOf F c y A q)) (B.set m true):=by
 have hln:names.length=nn:=by rw[hn,nms_len]
 refine⟨by rw[List.length_set];exact h.u,by rw[List.length_set];exact h.b,fun k s hk=>?_⟩
 have hkl:=(List.getElem?_eq_some_iff.1 hk).1
 have hs:s=nm 104 k:=by rw[hn,nms_get (by omega)]at hk;exact(Option.some.inj hk).symm
 have hu:=h.u
 have hb:=h.b
 by_cases e1:m=k
 · subst e1
   refine⟨puOf F c y A q,true,List.getElem?_set_self (by omega),List.getElem?_set_self (by omega),?_⟩
   rw[e,if_pos (by rw[hy,hs])]
   exact⟨rfl,A,q,rfl⟩
 · obtain⟨u,b,h1,h2,h3⟩:=h.at_ k s hk
   refine⟨u,b,by rw[List.getElem?_set_ne e1];exact h1,by rw[List.getElem?_set_ne e1];exact h2,?_⟩
   rw[e,if_neg (fun e2=>?_)]
   ·exact h3
   · rw[hy,hs]at e2
     exact e1 (nm_inj (by decide) (by decide) (by omega) (by omega) e2).2
end
def UsInv(F:Fl)(c:Cm)(names:List ByteArray)(us:List PV)(fs:List PB):Prop:=∀(i:Nat) (v:PV) (b:PB),us[i]?=some v→fs[i]?=some b→UInv F c names (fun s=>fndV s none (c.vers.take (i+1))) v.l b.l
theorem UsInv.push{F:Fl}{c:Cm}{names:List ByteArray}{us:List PV}{fs:List PB}{j:Nat}{v:PV}{b:PB}(h:UsInv F c names us fs)(hu:us.length=j)(hf:fs.length=j)(hv:UInv F c names (fun s=>fndV s none (c.vers.take (j+1))) v.l b.l):UsInv F c names (us++[v]) (fs++[b]):=fun i v' b' h1 h2=>by
 by_cases e:i<j
 · rw[List.getElem?_append_left (by omega)]at h1 h2
   exact h i v' b' h1 h2
 · have hl:=(List.getElem?_eq_some_iff.1 h1).1
   rw[lap]at hl
   have hl:i<us.length+1:=hl
   obtain rfl:i=j:=by omega
   rw[List.getElem?_append_right (by omega)]at h1 h2
   rw[hu,Nat.sub_self]at h1
   rw[hf,Nat.sub_self]at h2
   obtain rfl:v=v':=by simpa using h1
   obtain rfl:b=b':=by simpa using h2
   exact hv
structure PPOk(F:Fl)(c:Cm)(p:PP):Prop where
 names:p.names=hnames (c.vers.map Vs.pure)
 ul:p.us.length=c.vers.length
 fl:p.fs.length=c.vers.length
 inv:UsInv F c p.names p.us p.fs
structure CmW(c:Cm)(nn:Nat):Prop where
 hn:hnames (c.vers.map Vs.pure)=nms 104 nn
 n3:nn≤3
 each:∀v∈c.vers,∀(m:Nat) (y:Hd),v.l[m]?=some y→y.name=nm 104 m∧m<nn
section
variable{C:Cx}{ρ:Slots}{Γ:List Chunk}{K:Act→World→Prop}
end
def PsInv(F:Fl)(ps:List PP):Prop:=∀(k:Nat) (c:Cm) (p:PP),F.comps[k]?=some c→ps[k]?=some p→PPOk F c p
theorem PsInv.push{F:Fl}{ps:List PP}{c:Cm}{p:PP}{k:Nat}(h:PsInv F ps)(hl:ps.length=k)(hc:F.comps[k]?=some c)(hp:PPOk F c p):PsInv F (ps++[p]):=fun i c' p' h1 h2=>by
 by_cases e:i<k
 · rw[List.getElem?_append_left (by omega)]at h2
   exact h i c' p' h1 h2
 · have h3:=(List.getElem?_eq_some_iff.1 h2).1
   rw[lap]at h3
   have h3:i<ps.length+1:=h3
   obtain rfl:i=k:=by omega
   rw[List.getElem?_append_right (by omega),hl,Nat.sub_self]at h2
   rw[hc]at h1
   obtain rfl:=Option.some.inj h1
   obtain rfl:p=p':=by simpa using h2
   exact hp
structure ProgOk(F:Fl)(ps:List PP):Prop where
 len:ps.length=F.comps.length
 inv:PsInv F ps
theorem PP.lax(p:PP):Lax p.kids:=Lax.cons rfl (Lax.cons rfl (Lax.cons rfl (Lax.app (Lax.flat fun v _=>v.lax) (Lax.flat fun _ _=>ros_lax))))
section
variable{b:Nat}{A:Option Addr}{q:Nat}{ps:List PP}{p:PP}{k:Nat}{v:PV}{f:PB}{n:Nat}
end
theorem UAt.some{F:Fl}{c:Cm}{u:PU}{s:ByteArray}{l:List Vs}(h:UAt F c u true (fndV s none l)):∃v x A q,v∈l∧x∈v.l∧fndV s none l= .some x∧u=puOf F c x A q:=by
 cases e:fndV s none l with
 |none=>rw[e]at h;exact absurd h.2 (by decide)
 | some x=>
   rw[e]at h
   obtain⟨_,A,q,hu⟩:=h
   rcases fndV_mem e with h1|⟨v,hv,hx⟩
   ·cases h1
   ·exact⟨v,x,A,q,hv,hx,rfl,hu⟩
theorem Does.nilR{P:Program}{f:FuncId}{args:List Value}{Γ:List Chunk}{v:Value}{α:Type}{enc:α→List Value}{e:TypeId}{size:Nat}(h:Does P f args Γ (fun r Γ'=>r=v∧Γ'=[])):Does P f args Γ (fun r Γ'=>r=v∧Γ'=[rows enc e size none 0 ([]:List α)]):=fun w hs=>(h w hs).mono fun x w' ⟨r,Γ',h1,⟨h2,h3⟩,h4⟩=>by
 subst h3
 have hk:Post [] [rows enc e size none 0 ([]:List α)] w' w':=(show To ⟨0,[],w',[]⟩ [] [] (fun _ w2=>w2=w'→Post [] [rows enc e size none 0 ([]:List α)] w' w')from To.nilRow (enc:=enc) (e:=e) (size:=size) (fun _ w2 _ hp e2=>by subst e2;exact hp)) _ w' (Has.start [] 0 rfl) (Post.refl h4.sat) rfl
 exact⟨r,_,h1,⟨h2,rfl⟩,h4.trans hk⟩
section
variable{F:Fl}{ps:List PP}{k:Nat}{c:Cm}{h:Nat}{s:ByteArray}
end
end Go.Proofs.YtihgdnjkofpgiaaGreatDoor

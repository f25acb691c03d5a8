/- Merged out of Of0, Of1, Fm0 by merge.py. Own text. -/
import Derived.Test.YtihgdnjkofpgiaaGreatDoorUb
import Derived.Test.YtihgdnjkofpgiaaGreatDoorUg
import Derived.Test.YtihgdnjkofpgiaaGreatDoorUf
import Derived.Test.YtihgdnjkofpgiaaGreatDoorWa
set_option linter.unusedVariables false
set_option linter.unusedSimpArgs false
namespace Go.Proofs.YtihgdnjkofpgiaaGreatDoor
open Go.RowKit Go.Flow Go.Mem Go.Sep Go.In
structure FB where
 F:Fl
 src:ByteArray
 id:Nat→Nat
 pb:Nat
def encFB(x:FB):List Value:=x.F.cells++(.string x.src::(idL x.id++[.pointer (some ⟨x.pb,0,none⟩)]))
instance encFB_ok:Enc encFB 38:=⟨fun _=>rfl,fun e u hu=>by
 simp only[encFB,Fl.cells,List.mem_append,List.mem_cons,List.not_mem_nil,or_false,idL,List.mem_map]at hu
 rcases hu with(rfl|rfl|rfl|rfl)|rfl|⟨_,_,rfl⟩|rfl<;>rfl⟩
def flk(fb:Nat)(X:FB)(G:List Chunk):List Chunk:=ros encFB (some ⟨fb,0,none⟩) [X]::(X.F.kids eX++G)
theorem flk_lax{fb:Nat}{X:FB}{G:List Chunk}(h:Lax G):Lax (flk fb X G):=Lax.cons rfl ((Fl.lax eX X.F).app h)
theorem flk_fb{fb:Nat}{X:FB}{G:List Chunk}:ros encFB (some ⟨fb,0,none⟩) [X]∈flk fb X G:=List.mem_cons_self ..
theorem flk_F{fb:Nat}{X:FB}{G:List Chunk}:∀c∈X.F.kids eX,c∈flk fb X G:=fun _ hc=>List.mem_cons_of_mem _ (List.mem_append_left _ hc)
theorem flk_G{fb:Nat}{X:FB}{G:List Chunk}:∀c∈G,c∈flk fb X G:=fun _ hc=>List.mem_cons_of_mem _ (List.mem_append_right _ hc)
theorem To.flk{C:Cx}{ρ:Slots}{Γ:List Chunk}{K:Act→World→Prop}{fb:Nat}{G:List Chunk}(X:FB)(k:To C ρ (all (Proofs.YtihgdnjkofpgiaaGreatDoor.flk fb X G)::Γ) K):To C ρ (ro (some ⟨fb,0,none⟩) (encFB X)::all (X.F.kids eX)::all G::Γ) K:=by
 have e:ro (some ⟨fb,0,none⟩) (encFB X)=ros encFB (some ⟨fb,0,none⟩) [X]:=by
  show _=ro _ (encFB X++[])
  rw[List.append_nil]
 rw[e]
 refine To.perm (Γ':=all (X.F.kids eX)::all G::ros encFB (some ⟨fb,0,none⟩) [X]::Γ) ?_ (To.allApp (To.perm (List.Perm.swap _ _ _) (To.allCons k)))
 exact(List.perm_middle (l₁:=[_,_])).symm
set_option maxHeartbeats 8000000 in
set_option maxRecDepth 100000 in
theorem of_fn(F:Fl)(hX:GoodX F)(hCap:F.Cap)(R:Nat→List Chunk→Prop)(hc:Does Tryz.prog 20 [.agg #[.string F.name, .slice F.Af F.flags.length F.qf, .slice F.Al F.links.length F.ql, .slice F.Ac F.comps.length F.qc]] [all (F.kids eX),glc,p10c,tabC] (fun v Γ'=>∃(b:Nat) (G:List Chunk),v= .tuple #[pv b, .int .i64 0]∧Γ'=[all G]∧Lax G∧R b G)):
    Does Tryz.prog 42 [.agg #[.string F.name, .slice F.Af F.flags.length F.qf, .slice F.Al F.links.length F.ql, .slice F.Ac F.comps.length F.qc]] [all (F.kids eX),glc,p10c,tabC,cstC] (fun v Γ'=>∃(fb:Nat) (X:FB) (G:List Chunk),v= .tuple #[pv fb, .int .i64 0]∧Γ'=[all (flk fb X G)]∧Lax G∧X.F.Cap∧X.F.pure=F.pure∧R X.pb G):=by
 refine Does.enter Tryz.func42 rfl Tryz.ntmps42 rfl (fun w0=>?_)
 refine To.s (To.g ?_)
 refine To.bo fun b1=>?_
 refine To.z 7 ?_
 refine To.part 1 rfl (F.kids eX) (Fl.lax eX F) (fun z hz=>hz) (To.dup 3 rfl rfl (To.dup 5 rfl rfl (To.cl [2,1,0,4] rfl rfl rfl (Ent.fn rfl rfl ca20) rfl (hc) ?_)))
 rintro _ _ ⟨pb,G,rfl,rfl,hlx,hR⟩
 refine To.z 20 ?_
 refine To.cQ rfl rfl rfl (Ent.fn rfl rfl ca75) (print_fn F hX hCap) (by show owns (F.kids eX)++(owns gl++(p10c.owns++[]))=[];rw[(Fl.lax eX F).owns];rfl) (ocs (oca 2 rfl) (ocs (oca 3 rfl) (ocs (oca 4 rfl) (ocn _)))) ?_
 rintro _ _ ⟨s1,rfl,rfl,hs1⟩
 refine⟨rfl,?_⟩
 refine To.z 6 ?_
 refine To.cl [2] rfl rfl rfl (Ent.fn rfl rfl ca51) rfl (copyF_fn F hX.low) ?_
 rintro _ _ ⟨F2,rfl,rfl,hcp2,hpu2⟩
 refine To.z 2 ?_
 refine To.mk rfl rfl rfl (Mk.bytesOf rfl Tryz.underlying9 Tryz.underlying22 Tryz.underlying5 rfl) ?_
 rintro _ _ ⟨b21,q21,rfl,rfl,hq21⟩
 refine To.cQ rfl rfl rfl (Ent.fn rfl rfl ca76) (sum_fn (some ⟨b21,0,none⟩) q21 (byL s1) hq21) rfl (ocs (oca 0 rfl) (ocs (oca 6 rfl) (ocn _))) ?_
 rintro _ _ ⟨f,rfl,rfl⟩
 refine⟨rfl,?_⟩
 refine To.m ?_
 refine To.r (Rd.build (vs:=[(0, .agg #[.string F2.name, .slice F2.Af F2.flags.length F2.qf, .slice F2.Al F2.links.length F2.ql, .slice F2.Ac F2.comps.length F2.qc]),(1, .string s1),(2, .agg #[.int .u8 ((f 0:Nat):Int), .int .u8 ((f 1:Nat):Int), .int .u8 ((f 2:Nat):Int), .int .u8 ((f 3:Nat):Int), .int .u8 ((f 4:Nat):Int), .int .u8 ((f 5:Nat):Int), .int .u8 ((f 6:Nat):Int), .int .u8 ((f 7:Nat):Int), .int .u8 ((f 8:Nat):Int), .int .u8 ((f 9:Nat):Int), .int .u8 ((f 10:Nat):Int), .int .u8 ((f 11:Nat):Int), .int .u8 ((f 12:Nat):Int), .int .u8 ((f 13:Nat):Int), .int .u8 ((f 14:Nat):Int), .int .u8 ((f 15:Nat):Int), .int .u8 ((f 16:Nat):Int), .int .u8 ((f 17:Nat):Int), .int .u8 ((f 18:Nat):Int), .int .u8 ((f 19:Nat):Int), .int .u8 ((f 20:Nat):Int), .int .u8 ((f 21:Nat):Int), .int .u8 ((f 22:Nat):Int), .int .u8 ((f 23:Nat):Int), .int .u8 ((f 24:Nat):Int), .int .u8 ((f 25:Nat):Int), .int .u8 ((f 26:Nat):Int), .int .u8 ((f 27:Nat):Int), .int .u8 ((f 28:Nat):Int), .int .u8 ((f 29:Nat):Int), .int .u8 ((f 30:Nat):Int), .int .u8 ((f 31:Nat):Int)]),(3,pv pb)]) (cells:=[.string F2.name, .slice F2.Af F2.flags.length F2.qf, .slice F2.Al F2.links.length F2.ql, .slice F2.Ac F2.comps.length F2.qc, .string s1, .int .u8 ((f 0:Nat):Int), .int .u8 ((f 1:Nat):Int), .int .u8 ((f 2:Nat):Int), .int .u8 ((f 3:Nat):Int), .int .u8 ((f 4:Nat):Int), .int .u8 ((f 5:Nat):Int), .int .u8 ((f 6:Nat):Int), .int .u8 ((f 7:Nat):Int), .int .u8 ((f 8:Nat):Int), .int .u8 ((f 9:Nat):Int), .int .u8 ((f 10:Nat):Int), .int .u8 ((f 11:Nat):Int), .int .u8 ((f 12:Nat):Int), .int .u8 ((f 13:Nat):Int), .int .u8 ((f 14:Nat):Int), .int .u8 ((f 15:Nat):Int), .int .u8 ((f 16:Nat):Int), .int .u8 ((f 17:Nat):Int), .int .u8 ((f 18:Nat):Int), .int .u8 ((f 19:Nat):Int), .int .u8 ((f 20:Nat):Int), .int .u8 ((f 21:Nat):Int), .int .u8 ((f 22:Nat):Int), .int .u8 ((f 23:Nat):Int), .int .u8 ((f 24:Nat):Int), .int .u8 ((f 25:Nat):Int), .int .u8 ((f 26:Nat):Int), .int .u8 ((f 27:Nat):Int), .int .u8 ((f 28:Nat):Int), .int .u8 ((f 29:Nat):Int), .int .u8 ((f 30:Nat):Int), .int .u8 ((f 31:Nat):Int),pv pb]) rfl rfl rfl (by kernel_rfl)) ?_
 refine To.bo fun fb=>?_
 refine To.z 5 ?_
 refine To.layBox (To.up3 (To.up3 (To.up2 (To.flk (⟨F2,s1,f,pb⟩:FB) (To.del5 (To.del4 (To.del3 (To.del2 (To.del1 (To.end2 (.inl rfl) Tryz.results42 rfl rfl ?_))))))))))
 exact⟨fb,⟨F2,s1,f,pb⟩,G,rfl,rfl,hlx,hcp2,hpu2,hR⟩
def atI{α:Type}(l:List α)(i:Int):Option α:=if i<0 then none else l[i.toNat]?
theorem atI_nat{α:Type}(l:List α)(k:Nat):atI l (k:Int)=l[k]?:=by
 unfold atI;rw[if_neg (by omega)];rfl
theorem atI_none{α:Type}{l:List α}{i:Int}(h:i<0∨(l.length:Int)≤i):atI l i=none:=by
 unfold atI;split
 ·rfl
 ·exact List.getElem?_eq_none (by omega)
theorem atI_cases{α:Type}(l:List α)(i:Int):(i<0∨(l.length:Int)≤i)∨∃(k:Nat) (x:α),i=(k:Int)∧l[k]?=some x:=by
 by_cases h:i<0∨(l.length:Int)≤i
 ·exact .inl h
 · have hk:i.toNat<l.length:=by omega
   exact .inr ⟨i.toNat,l[i.toNat],by omega,gge hk⟩
def CmZ:Cm:=⟨nE,none,0,[],none,0,[]⟩
def cmI(F:Fl)(c:Int):Cm:=(atI F.comps c).getD CmZ
theorem cmI_at{F:Fl}{k:Nat}{x:Cm}(h:F.comps[k]?=some x):cmI F (k:Int)=x:=by unfold cmI;rw[atI_nat,h];rfl
theorem cmI_none{F:Fl}{c:Int}(h:c<0∨(F.comps.length:Int)≤c):cmI F c=CmZ:=by unfold cmI;rw[atI_none h];rfl
theorem flk_ro{fb:Nat}{X:FB}{G:List Chunk}:ro (some ⟨fb,0,none⟩) (encFB X)∈flk fb X G:=by
 have e:ro (some ⟨fb,0,none⟩) (encFB X)=ros encFB (some ⟨fb,0,none⟩) [X]:=by
  show _=ro _ (encFB X++[])
  rw[List.append_nil]
 rw[e];exact flk_fb
structure PgN(b:Nat)(A:Option Addr)(q:Nat)(ps:List PP)(G:List Chunk):Prop where
 box:ro (some ⟨b,0,none⟩) [.slice A ps.length q]∈G
 row:ros encPP A ps∈G
 nm:∀p∈ps,ros encZ p.An p.names∈G
 lax:Lax G
structure PgX(X:FB)(G:List Chunk)(A:Option Addr)(q:Nat)(ps:List PP):Prop where
 pg:PgN X.pb A q ps G
 len:ps.length≤12
 nms:∀p∈ps,p.names.length≤1000
def hnI(ps:List PP)(c:Int):List ByteArray:=match atI ps c with|some p=>p.names|none=>[]
theorem hnI_at{ps:List PP}{k:Nat}{p:PP}(h:ps[k]?=some p):hnI ps (k:Int)=p.names:=by unfold hnI;rw[atI_nat,h]
theorem hnI_none{ps:List PP}{c:Int}(h:c<0∨(ps.length:Int)≤c):hnI ps c=[]:=by unfold hnI;rw[atI_none h]
theorem To.rosTake{C:Cx}{ρ:Slots}{Γ:List Chunk}{α:Type}{enc:α→List Value}{A:Option Addr}{l:List α}(v i:Nat)(hi:Γ[i]?=some (ros enc A l)){K:Act→World→Prop}(k:To C ρ (ros enc A (l.take v)::Γ) K):To C ρ Γ K:=fun a w ha hq=>by
 have hm:ros enc A l∈Γ:=mog hi
 have hx0:l.flatMap enc=(l.take v).flatMap enc++(l.drop v).flatMap enc:=by rw[←List.flatMap_append,List.take_append_drop]
 have hh:Src w A ((l.take v).flatMap enc):=by
  have h:Src w A (l.flatMap enc):=hq.sat.each _ hm
  rcases h with h|⟨g,off,e,hr⟩
  ·left;rw[hx0]at h;exact(List.append_eq_nil_iff.1 h).1
  · right;refine⟨g,off,e,fun j u hu=>hr j u ?_⟩
    rw[hx0,List.getElem?_append_left (List.getElem?_eq_some_iff.1 hu).1];exact hu
 have hr:∀g∈(ros enc A (l.take v)).reads,g∈(ros enc A l).reads:=fun g hg=>by
  have h1:g∈rblks A ((l.take v).flatMap enc):=hg
  show g∈rblks A (l.flatMap enc)
  rw[hx0]
  cases h2:(l.take v).flatMap enc with
  |nil=>rw[h2]at h1;cases h1
  |cons y ys=>rw[h2]at h1;exact h1
 have e1:owns (ros enc A (l.take v)::Γ)=owns Γ:=rfl
 refine k a w ha ⟨⟨fun x hx=>?_,?_,fun g hg=>?_⟩,hq.keeps,fun g hg=>?_,fun g hg=>?_⟩
 · rcases List.mem_cons.1 hx with rfl|h
   ·exact hh
   ·exact hq.sat.each x h
 ·rw[e1];exact hq.sat.nodup
 · rw[e1]
   obtain⟨x,hx,hgx⟩:=mem_reads.1 hg
   rcases List.mem_cons.1 hx with rfl|h
   ·exact hq.sat.apart g (mem_reads.2 ⟨_,hm,hr g hgx⟩)
   ·exact hq.sat.apart g (mem_reads.2 ⟨x,h,hgx⟩)
 ·rw[e1]at hg;exact hq.own g hg
 · obtain⟨x,hx,hgx⟩:=mem_reads.1 hg
   rcases List.mem_cons.1 hx with rfl|h
   ·exact hq.rd g (mem_reads.2 ⟨_,hm,hr g hgx⟩)
   ·exact hq.rd g (mem_reads.2 ⟨x,h,hgx⟩)
def parH(s:ByteArray):List Hd→Option Nat
 |[]=>none
 |h::r=>if h.name=s then some h.ps.length else parH s r
def parV(s:ByteArray):List Vs→Option Nat
 |[]=>none
 |v::r=>match parH s v.l with|some n=>some n|none=>parV s r
theorem parH_hit{s:ByteArray}{l:List Hd}{k:Nat}{h:Hd}(hk:l[k]?=some h)(e:h.name=s):parH s (l.drop k)=some h.ps.length:=by rw[dog hk];show(if _ then _ else _)=_;rw[if_pos e]
theorem parH_miss{s:ByteArray}{l:List Hd}{k:Nat}{h:Hd}(hk:l[k]?=some h)(e:¬h.name=s):parH s (l.drop k)=parH s (l.drop (k+1)):=by rw[dog hk];show(if _ then _ else _)=_;rw[if_neg e]
theorem parV_at{s:ByteArray}{l:List Vs}{k:Nat}{v:Vs}(hk:l[k]?=some v):parV s (l.drop k)=match parH s v.l with|some n=>some n|none=>parV s (l.drop (k+1)):=by rw[dog hk];rfl
def vkN(t:Bool):List Vr→Nat
 |[]=>0
 |x::r=>(if decide (x.ty=3)=t then 1 else 0)+vkN t r
theorem vkN_drop{t:Bool}{l:List Vr}{k:Nat}{x:Vr}(h:l[k]?=some x):vkN t (l.drop k)=(if decide (x.ty=3)=t then 1 else 0)+vkN t (l.drop (k+1)):=by rw[dog h];rfl
theorem eqI3z(n:Nat):decide (((n:Nat):Int)=3)=decide (n=3):=by rw[Bool.eq_iff_iff,decide_eq_true_eq,decide_eq_true_eq];omega
theorem vkN_hit{t:Bool}{l:List Vr}{k:Nat}{x:Vr}(h:l[k]?=some x)(e:decide (x.ty=3)=t):vkN t (l.drop k)=1+vkN t (l.drop (k+1)):=by rw[vkN_drop h,if_pos e]
theorem vkN_miss{t:Bool}{l:List Vr}{k:Nat}{x:Vr}(h:l[k]?=some x)(e:¬decide (x.ty=3)=t):vkN t (l.drop k)=vkN t (l.drop (k+1)):=by rw[vkN_drop h,if_neg e,Nat.zero_add]
def latL(s d:ByteArray):List Lk→Int
 |[]=>1
 |l::r=>if l.src=s∧l.dst=d then l.lat else latL s d r
theorem latL_hit{s d:ByteArray}{l:List Lk}{k:Nat}{x:Lk}(h:l[k]?=some x)(e1:x.src=s)(e2:x.dst=d):latL s d (l.drop k)=x.lat:=by rw[dog h];show(if _ then _ else _)=_;rw[if_pos ⟨e1,e2⟩]
theorem latL_miss{s d:ByteArray}{l:List Lk}{k:Nat}{x:Lk}(h:l[k]?=some x)(e:¬(x.src=s∧x.dst=d)):latL s d (l.drop k)=latL s d (l.drop (k+1)):=by rw[dog h];show(if _ then _ else _)=_;rw[if_neg e]
end Go.Proofs.YtihgdnjkofpgiaaGreatDoor

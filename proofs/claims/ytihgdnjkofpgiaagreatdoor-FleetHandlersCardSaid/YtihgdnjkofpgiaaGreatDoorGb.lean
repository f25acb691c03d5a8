/- Own text. -/
import Derived.Test.YtihgdnjkofpgiaaGreatDoorGa
import Derived.Test.YtihgdnjkofpgiaaGreatDoorCb
import Derived.Laws.BytesString
set_option linter.unusedVariables false
set_option linter.unusedSimpArgs false
namespace Go.Proofs.YtihgdnjkofpgiaaGreatDoor
open Go.RowKit Go.Flow Go.Mem Go.Sep Go.In
structure Cc where
 pn:yB→Ins
 vs:yB→Int
 ts:yB→Int
 tg:yB→yB→Int×Int
 ah:yB→Int
def opI(c:Cc)(op:Nat)(s:yB)(n:Int):Ins:=
 if op=1 then⟨1,0,0,n⟩else if op=2 then⟨1,0,0,1⟩else if op=3 then⟨1,0,0,0⟩else if op=4 then⟨5,0,0,0⟩else if op=5 then c.pn s
 else if op=6∨op=7∨op=8 then⟨op,c.ts s,0,0⟩else⟨op,0,0,0⟩
mutual
def cE(c:Cc):PE→List Ins
 |⟨op,s,n,l⟩=>cEs c l++[opI c op s n]
def cEs(c:Cc):List PE→List Ins
 |[]=>[]
 |e::r=>cE c e++cEs c r
end
def ovr(p:Nat)(e:List Ins)(b:Bool):List Ins:=if b then []else⟨27,((p+1+e.length:Nat):Int),0,0⟩::e
mutual
def cS(c:Cc):PS→Nat→List Ins
 | ⟨k,s,h,es,t,e⟩,top=>
   let x:=(⟨29,0,0,0⟩:Ins)::cEs c es;let p:=top+x.length+1;let j:Nat:=if e.isEmpty then 0 else 1
   x++(if k=1 then [⟨24,c.vs s,0,0⟩]else if k=2 then [⟨25,c.ts s,0,0⟩]else if k=3 then [⟨26,c.ts s,0,0⟩]
    else if k=4 then⟨28,((p+(cB c t p).length+j:Nat):Int),0,0⟩::(cB c t p++ovr (p+(cB c t p).length) (cB c e (p+(cB c t p).length+1)) e.isEmpty)
    else if k=5 then⟨28,((p+(cB c t p).length+1:Nat):Int),0,0⟩::(cB c t p++[⟨27,((top:Nat):Int),0,0⟩])
    else if k=6 then [⟨30,(c.tg s h).1,(c.tg s h).2,((es.length:Nat):Int)⟩]
    else if k=7 then [⟨31,0,c.ah h,((es.length:Nat):Int)-1⟩]
    else if k=8 then⟨32,0,((p+j:Nat):Int),0⟩::ovr p (cB c e (p+1)) e.isEmpty
    else if k=9 then⟨33,c.vs s,((p+j:Nat):Int),0⟩::ovr p (cB c e (p+1)) e.isEmpty
    else if k=10 then [⟨34,0,0,0⟩]else [])
def cB(c:Cc):List PS→Nat→List Ins
 |[],_=>[]
 |s::r,top=>cS c s top++cB c r (top+(cS c s top).length)
end
theorem JV(c:Cc)(l m:List PE):cEs c (l++m)=cEs c l++cEs c m:=by
 induction l with
 |nil=>rfl
 |cons a r ih=>show cE c a++cEs c (r++m)=(cE c a++cEs c r)++_;rw[ih,aQi]
theorem FC(c:Cc):∀(l m:List PS) (top:Nat),cB c (l++m) top=cB c l top++cB c m (top+(cB c l top).length)
 |[],m,top=>by show cB c m top=[]++cB c m (top+0);rfl
 | s::r,m,top=>by
   show cS c s top++cB c (r++m) _=(cS c s top++cB c r _)++cB c m (top+(cS c s top++cB c r _).length);rw[FC c r m,aQi,ak,Nat.add_assoc]
open Go.RowKit Go.Flow Go.Mem Go.Sep
def strOf(l:List Nat):yB:=(l.map fun n:Nat=>(n:Int)).foldl (fun r n=>r.push (UInt8.ofNat n.toNat)) bE
theorem UI(l:List Nat):l.flatMap Fp=(l.map fun n:Nat=>(n:Int)).map (Value.int .u8):=by
 induction l with
 |nil=>rfl
 |cons a r ih=>rw[aQq,ih];rfl
theorem zI{P:pG}{o:Oper}{ρ:Bo}{Γ:List Ad}{x:Operand}{src dst e:tI}{A:OA}{l:List Nat}{cap:Nat}(ho:o.op= .convert src dst x)(hs:P.underlying src=some (.slice e))(he:P.underlying e=some (.int .u8))(hd:P.underlying dst=some .string)
    (hx:ev ρ x=some (vs A l cap)) (hr:∀w,oks Γ w→(ros Fp A l).holds w):Rd P o ρ Γ (.string (strOf l)):=fun a w ha hw=>by
 have hq:Src w A (l.flatMap Fp):=hr w hw;have hc:=run_convert_bytes_string (P:=P) w src dst e A l.length cap hs he hd;have hb:(Conv.bytesToString (vs A l cap)).run P w= .ok (.string (strOf l)) w:=by
  cases A with
  | none=>
    have hl:l=[]:=by
     rcases hq with h|⟨g,off,h,_⟩
     · cases l with
       |nil=>rfl
       |cons z r=>exact aPu (aPe List.length h) (by simp[Fp])
     ·cases h
    subst hl;simp[Conv.bytesToString,strOf,aQv]
  | some ad=>
    refine run_bytesToString w ad l.length cap (l.map fun n:Nat=>(n:Int)) ?_;have hcell:∀j v,(l.flatMap Fp)[j]?=some v→w.cell? (ad.add j)=some v:=by
     intro j v hv;rcases hq with h|⟨g,off,h,h2⟩
     ·rw[h]at hv;cases hv
     · injection h with h;subst h
       rw[Addr.add_mid];exact h2 j v hv
    have h3:=run_loadCells_list (P:=P) (w:=w) ad (l.flatMap Fp) hcell;rw[UI,aPg,aPg]at h3;exact h3
 unfold execOp;simp[ho,ha.eval hx,hc,hb]
open Go.RowKit Go.Flow Go.Mem Go.Sep Go.In
structure Cd where
 params:Nat
 B:OA
 q:Nat
 bl:List Nat
structure Pt where
 ints:Nat
 tables:Nat
 Ah:OA
 qh:Nat
 hs:List Cd
 As:OA
 qs:Nat
 sec:List Cd
structure Pl where
 flags:Nat
 Al:OA
 ql:Nat
 links:List Nat
 Ac:OA
 qc:Nat
 comps:List Pt
abbrev cL(p:Pl)(r:List vU):List vU:=ub p.flags::vs p.Al p.links p.ql::vs p.Ac p.comps p.qc::r
def Ng(c:Cd):List vU:=[ub c.params,vs c.B c.bl c.q]
def Tn(c:Pt):List vU:=[ub c.ints,ub c.tables,vs c.Ah c.hs c.qh,vs c.As c.sec c.qs]
def Pl.cells(c:Pl):List vU:=[ub c.flags,vs c.Al c.links c.ql,vs c.Ac c.comps c.qc]
instance aLl:Enc Ng 2:=⟨fun _=>rfl,fun e u hu=>by
 simp only[Ng,aPi,aPm,aQo]at hu;rcases hu with rfl|rfl<;>rfl⟩
instance aLm:Enc Tn 4:=⟨fun _=>rfl,fun e u hu=>by
 simp only[Tn,aPi,aPm,aQo]at hu;rcases hu with rfl|rfl|rfl|rfl<;>rfl⟩
def Cd.kids(c:Cd):List Ad:=[ros Fp c.B c.bl]
def Pt.kids(c:Pt):List Ad:=ros Ng c.Ah c.hs::ros Ng c.As c.sec::(c.hs++c.sec).flatMap Cd.kids
def Pl.kids(c:Pl):List Ad:=ros Fp c.Al c.links::ros Tn c.Ac c.comps::c.comps.flatMap Pt.kids
theorem Cd.lax(c:Cd):Lax c.kids:=gy rfl Lax.nil
theorem Pt.lax(c:Pt):Lax c.kids:=gy rfl (gy rfl (Gt fun h _=>h.lax))
theorem Pl.lax(c:Pl):Lax c.kids:=gy rfl (gy rfl (Gt fun h _=>h.lax))
def okB(l:List Nat)(q:Nat):Prop:=(∀x∈l,x<256)∧l.length≤q
theorem okB.drop{l:List Nat}{q:Nat}(h:okB l q)(n:Nat):okB (l.drop n) (q-n):=⟨fun x hx=>h.1 x (List.mem_of_mem_drop hx),by rw[aRi];have:=h.2;omega⟩
theorem okB.take{l:List Nat}{q:Nat}(h:okB l q)(n:Nat):okB (l.take n) q:=⟨fun x hx=>h.1 x (aRc hx),by rw[aPo];have:=h.2;omega⟩
def Cd.Ok(c:Cd):Prop:=c.params<256∧okB c.bl c.q
structure Pt.Ok(c:Pt):Prop where
 ints:c.ints<256
 tables:c.tables<256
 hs:c.hs.length≤c.qh
 sec:c.sec.length≤c.qs
 hk:∀x∈c.hs,x.Ok
 sk:∀x∈c.sec,x.Ok
structure Pl.Ok(c:Pl):Prop where
 flags:c.flags<256
 links:okB c.links c.ql
 comps:c.comps.length≤c.qc
 ck:∀x∈c.comps,x.Ok
structure Ar where
 A:OA
 q:Nat
 l:List Nat
def gI(n:Nat):List vU:=[nv n]
instance jY:Enc gI 1:=⟨fun _=>rfl,fun x u hu=>by simp[gI]at hu;subst hu;rfl⟩
def dR(c:Ar):List vU:=[vs c.A c.l c.q]
instance UJ:Enc dR 1:=⟨fun _=>rfl,fun x u hu=>by simp[dR]at hu;subst hu;rfl⟩
def Ar.kids(a:Ar):List Ad:=[ros gI a.A a.l]
def arsK(A:OA)(l:List Ar):List Ad:=ros dR A l::l.flatMap Ar.kids
theorem nL{A:OA}{l:List Ar}{a:Ar}(h:a∈l):ros gI a.A a.l∈arsK A l:=aPb _ (aQe.2 ⟨a,h,aPc ..⟩)
def aGy(h s:List Nat):List Nat:=(List.range 3).filterMap fun k=>if k<h.length then h[k]?.map (·%3)else if k=0 then some 1 else if k<s.length then s[k]?.map (·%3)else none
end Go.Proofs.YtihgdnjkofpgiaaGreatDoor

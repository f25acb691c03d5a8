/- Own text. -/
import Derived.Test.YtihgdnjkofpgiaaGreatDoorCa
set_option linter.unusedVariables false
set_option linter.unusedSimpArgs false
namespace Go.Proofs.YtihgdnjkofpgiaaGreatDoor
open Go.RowKit Go.Flow Go.Mem Go.Sep
def UG(e:Ins):List vU:=[nv e.op,iv e.a,iv e.b,iv e.n]
instance aOu:Enc UG 4:=⟨fun _=>rfl,fun e u hu=>by
 simp only[UG,aPi,aPm,aQo]at hu;rcases hu with rfl|rfl|rfl|rfl<;>rfl⟩
def uA(o:Int):Bool:=decide ((2≤o∧o≤4)∨(6≤o∧o≤8)∨(24≤o∧o≤28)∨o=30∨o=33)
def uB(o:Int):Bool:=decide (30≤o∧o≤33)
def uN(o:Int):Bool:=decide (o=1∨o=30∨o=31)
def jR(x:Ins):Int:=if((x.op:Nat):Int)=27∨((x.op:Nat):Int)=28 then x.a else if((x.op:Nat):Int)=32∨((x.op:Nat):Int)=33 then x.b else-1
def mvP(x:Ins):Int:=if((x.op:Nat):Int)≤5∨((x.op:Nat):Int)=8 then 0 else if((x.op:Nat):Int)≤10 then 1 else if((x.op:Nat):Int)≤23 then 2 else
 if((x.op:Nat):Int)=24∨((x.op:Nat):Int)=26∨((x.op:Nat):Int)=28∨((x.op:Nat):Int)=33 then 1 else if((x.op:Nat):Int)=25∨((x.op:Nat):Int)=32 then 2 else
 if((x.op:Nat):Int)=30 then x.n else if((x.op:Nat):Int)=31 then x.n+1 else 0
def mvQ(x:Ins):Int:=if((x.op:Nat):Int)≤23 then 1 else 0
def Nf(pr:Int)(nc:Nat)(x:Ins):Bool:=!((decide (((x.op:Nat):Int)<1))||decide (34<((x.op:Nat):Int)))&&(!((!uA ((x.op:Nat):Int)&&decide (x.a≠0))||((!uB ((x.op:Nat):Int)&&decide (x.b≠0))||(!uN ((x.op:Nat):Int)&&decide (x.n≠0))))&&(!((uA ((x.op:Nat):Int)&&(!((decide (((x.op:Nat):Int)=27))||decide (((x.op:Nat):Int)=28))&&(decide (x.a<0)||decide (63<x.a))))||(decide (((x.op:Nat):Int)=3)&&decide (pr≤x.a)))&&(!(((decide (((x.op:Nat):Int)=30))||decide (((x.op:Nat):Int)=31))&&(decide (x.b<0)||(decide (63<x.b)||(decide (x.n<0)||decide (4<x.n)))))&&(!(((decide (((x.op:Nat):Int)=27))||decide (((x.op:Nat):Int)=28))||(decide (((x.op:Nat):Int)=32)||decide (((x.op:Nat):Int)=33)))||(decide (0≤jR x)&&decide (jR x≤((nc:Nat):Int)))))))
def mR(y:Int):Int:=if y<0 then 0 else y
def aLi(x:Ins)(i:Nat):List Int:=(if((x.op:Nat):Int)≠27∧((x.op:Nat):Int)≠34 then [((i+1:Nat):Int)]else [])++(if 0≤jR x then [jR x]else [])
def aLj(v:Int)(s:List Int×Bool)(k:Int):List Int×Bool:=(if s.1.getD k.toNat 0<0 then s.1.set k.toNat v else s.1,s.2&& !(decide (0≤s.1.getD k.toNat 0∧s.1.getD k.toNat 0≠v)))
def vR(m:Int)(x:Ins):Int:=m-mvP x+mvQ x
def aLk(h:List Int)(most:Int)(ok:Bool)(i:Nat)(x:Ins):oP (List Int×Int×Bool):=
 let m:=mR (h.getD i 0)
 if m<mvP x∨(((x.op:Nat):Int)=34∧m≠0)then none else
 let r:=(aLi x i).foldl (aLj (vR m x)) (if h.getD i 0<0 then h.set i 0 else h,ok)
 some (r.1,max (max most m) (vR m x),r.2)
def goR:Nat→List Ins→List Int→Int→Bool→Int×Bool
 |i,[],h,most,ok=>(most,ok&&decide (h.getD i 0≤0))
 | i,x::r,h,most,ok=>match aLk h most ok i x with
   |none=>(most,false)
   |some p=>goR (i+1) r p.1 p.2.1 p.2.2
def aBd(l:List Ins):Int×Bool:=goR 0 l (List.replicate (l.length+1) (-1)) 0 true
theorem Ra{C:Cx}{P:pG}{ρ:Bo}{Γ:List Ad}{Q:Exit→Act→wD→Prop}{T:Type}{c:Code}{K:Act→wD→Prop}(F:T→Bo×List Ad)(p:T→Prop)(h:To C ρ Γ (c.wp P (Exit.then (fun a w=>∃t,p t∧Has C.n C.ds (F t).1 a∧Dk C.Γ0 (F t).2 C.w0 w) Q)))(k:∀t,p t→To C (F t).1 (F t).2 K):To C ρ Γ (c.wp P (Exit.then K Q)):=fun a w ha hp=>
 Code.wp_mono (fun e a w hq=>by
  cases e with
  |normal=>obtain⟨t,h1,h2,h3⟩:=hq;exact k t h1 a w h2 h3
  |exit id=>exact hq
  |goto l=>exact hq
  |ret=>exact hq
  |panic ch=>exact hq
  |outgrown=>exact hq) (h a w ha hp)
theorem UH:((List.range 35).all fun o=>o==0||(Ri o 65==uA ((o:Nat):Int)&&Ri o 66==uB ((o:Nat):Int)&&Ri o 78==uN ((o:Nat):Int)))=true:=by kernel_rfl
theorem aBe{o:Nat}(h1:1≤o)(h2:o≤34):Ri o 65=uA ((o:Nat):Int)∧Ri o 66=uB ((o:Nat):Int)∧Ri o 78=uN ((o:Nat):Int):=by
 have h:=aRd.1 UH o (List.mem_range.2 om);simp only[aRj,aPk,beq_iff_eq]at h;rcases h with h|⟨⟨ha,hb⟩,hn⟩
 ·omega
 ·exact⟨ha,hb,hn⟩
theorem aBf{pr:Int}{nc:Nat}{x:Ins}(hp:0≤pr∧pr≤4):Nf pr nc x=Vy pr nc x:=by
 obtain⟨o,a,b,n⟩:=x;by_cases ho:1≤o∧o≤34
 · obtain⟨ea,eb,en⟩:=aBe ho.1 ho.2
   rw[Bool.eq_iff_iff];unfold Nf Vy;rw[ea,eb,en];clear ea eb en;rcases(by omega:o=1∨o=2∨o=3∨o=4∨o=5∨o=6∨o=7∨o=8∨o=9∨o=10∨o=11∨o=12∨o=13∨o=14∨o=15∨o=16∨o=17∨o=18∨o=19∨o=20∨o=21∨o=22∨o=23∨o=24∨o=25∨o=26∨o=27∨o=28∨o=29∨o=30∨o=31∨o=32∨o=33∨o=34)with rfl|rfl|rfl|rfl|rfl|rfl|rfl|rfl|rfl|rfl|rfl|rfl|rfl|rfl|rfl|rfl|rfl|rfl|rfl|rfl|rfl|rfl|rfl|rfl|rfl|rfl|rfl|rfl|rfl|rfl|rfl|rfl|rfl|rfl<;>simp[uA,uB,uN,tgt,jR]<;>omega
 · rw[Bool.eq_iff_iff]
   unfold Nf Vy;simp only[aPk,aRj,aQx,Bool.not_eq_true',aRx,aRs];constructor<;>intro h<;>omega
structure Sp where
 t:Nat
 f:Nat
 v:Int
def Sp.cells(e:Sp):List vU:=[ub e.t,ub e.f, .int .i32 e.v]
instance aOv:Enc Sp.cells 3:=⟨fun _=>rfl,fun e u hu=>by
 simp only[Sp.cells,aPi,aPm,aQo]at hu;rcases hu with rfl|rfl|rfl<;>rfl⟩
def Fp(n:Nat):List vU:=[ub n]
instance Zj:Enc Fp 1:=⟨fun _=>rfl,fun x u hu=>by simp[Fp]at hu;subst hu;rfl⟩
section
variable{P:pG}{o:Oper}{ρ:Bo}{Γ:List Ad}{x y:Operand}{t t':tI}{a b j:Nat}
end
end Go.Proofs.YtihgdnjkofpgiaaGreatDoor

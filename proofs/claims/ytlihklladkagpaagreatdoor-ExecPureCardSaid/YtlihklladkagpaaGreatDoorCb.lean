/- Own text. -/
import Derived.Test.YtlihklladkagpaaGreatDoorCa
set_option linter.unusedVariables false
set_option linter.unusedSimpArgs false
namespace Go.Proofs.YtlihklladkagpaaGreatDoor
open Go.RowKit Go.Flow Go.Mem Go.Sep
def Ins.rc(e:Ins):List Value:=[nv e.op, .int .i64 e.a, .int .i64 e.b, .int .i64 e.n]
instance encRi:Enc Ins.rc 4:=⟨fun _=>rfl,fun e u hu=>by
 simp only[Ins.rc,List.mem_cons,List.not_mem_nil,or_false]at hu
 rcases hu with rfl|rfl|rfl|rfl<;>rfl⟩
def uA(o:Int):Bool:=decide ((2≤o∧o≤4)∨(6≤o∧o≤8)∨(24≤o∧o≤28)∨o=30∨o=33)
def uB(o:Int):Bool:=decide (30≤o∧o≤33)
def uN(o:Int):Bool:=decide (o=1∨o=30∨o=31)
def jR(x:Ins):Int:=if((x.op:Nat):Int)=27∨((x.op:Nat):Int)=28 then x.a else if((x.op:Nat):Int)=32∨((x.op:Nat):Int)=33 then x.b else-1
def mvP(x:Ins):Int:=if((x.op:Nat):Int)≤5∨((x.op:Nat):Int)=8 then 0 else if((x.op:Nat):Int)≤10 then 1 else if((x.op:Nat):Int)≤23 then 2 else
 if((x.op:Nat):Int)=24∨((x.op:Nat):Int)=26∨((x.op:Nat):Int)=28∨((x.op:Nat):Int)=33 then 1 else if((x.op:Nat):Int)=25∨((x.op:Nat):Int)=32 then 2 else
 if((x.op:Nat):Int)=30 then x.n else if((x.op:Nat):Int)=31 then x.n+1 else 0
def mvQ(x:Ins):Int:=if((x.op:Nat):Int)≤23 then 1 else 0
def formR(pr:Int)(nc:Nat)(x:Ins):Bool:=!((decide (((x.op:Nat):Int)<1))||decide (34<((x.op:Nat):Int)))&&(!((!uA ((x.op:Nat):Int)&&decide (x.a≠0))||((!uB ((x.op:Nat):Int)&&decide (x.b≠0))||(!uN ((x.op:Nat):Int)&&decide (x.n≠0))))&&(!((uA ((x.op:Nat):Int)&&(!((decide (((x.op:Nat):Int)=27))||decide (((x.op:Nat):Int)=28))&&(decide (x.a<0)||decide (63<x.a))))||(decide (((x.op:Nat):Int)=3)&&decide (pr≤x.a)))&&(!(((decide (((x.op:Nat):Int)=30))||decide (((x.op:Nat):Int)=31))&&(decide (x.b<0)||(decide (63<x.b)||(decide (x.n<0)||decide (4<x.n)))))&&(!(((decide (((x.op:Nat):Int)=27))||decide (((x.op:Nat):Int)=28))||(decide (((x.op:Nat):Int)=32)||decide (((x.op:Nat):Int)=33)))||(decide (0≤jR x)&&decide (jR x≤((nc:Nat):Int)))))))
def mR(y:Int):Int:=if y<0 then 0 else y
def goesR(x:Ins)(i:Nat):List Int:=(if((x.op:Nat):Int)≠27∧((x.op:Nat):Int)≠34 then [((i+1:Nat):Int)]else [])++(if 0≤jR x then [jR x]else [])
def putR1(v:Int)(s:List Int×Bool)(k:Int):List Int×Bool:=(if s.1.getD k.toNat 0<0 then s.1.set k.toNat v else s.1,s.2&& !(decide (0≤s.1.getD k.toNat 0∧s.1.getD k.toNat 0≠v)))
def vR(m:Int)(x:Ins):Int:=m-mvP x+mvQ x
def stepR(h:List Int)(most:Int)(ok:Bool)(i:Nat)(x:Ins):Option (List Int×Int×Bool):=
 let m:=mR (h.getD i 0)
 if m<mvP x∨(((x.op:Nat):Int)=34∧m≠0)then none else
 let r:=(goesR x i).foldl (putR1 (vR m x)) (if h.getD i 0<0 then h.set i 0 else h,ok)
 some (r.1,max (max most m) (vR m x),r.2)
def goR:Nat→List Ins→List Int→Int→Bool→Int×Bool
 |i,[],h,most,ok=>(most,ok&&decide (h.getD i 0≤0))
 | i,x::r,h,most,ok=>match stepR h most ok i x with
   |none=>(most,false)
   |some p=>goR (i+1) r p.1 p.2.1 p.2.2
def heightR(l:List Ins):Int×Bool:=goR 0 l (List.replicate (l.length+1) (-1)) 0 true
theorem uses_all:((List.range 35).all fun o=>o==0||(usesB o 65==uA ((o:Nat):Int)&&usesB o 66==uB ((o:Nat):Int)&&usesB o 78==uN ((o:Nat):Int)))=true:=by kernel_rfl
theorem uses_eq{o:Nat}(h1:1≤o)(h2:o≤34):usesB o 65=uA ((o:Nat):Int)∧usesB o 66=uB ((o:Nat):Int)∧usesB o 78=uN ((o:Nat):Int):=by
 have h:=List.all_eq_true.1 uses_all o (List.mem_range.2 om)
 simp only[Bool.or_eq_true,Bool.and_eq_true,beq_iff_eq]at h
 rcases h with h|⟨⟨ha,hb⟩,hn⟩
 ·omega
 ·exact⟨ha,hb,hn⟩
theorem moves_all:((List.range 35).all fun o=>o==0||((o==31||(rowOf o).pops==mvP ⟨o,0,0,0⟩)&&(rowOf o).pushes==mvQ ⟨o,0,0,0⟩))=true:=by kernel_rfl
theorem row31:(rowOf 31).pops=1:=by kernel_rfl
theorem row30:(rowOf 30).pops=0:=by kernel_rfl
theorem moves_eq{x:Ins}(h1:1≤x.op)(h2:x.op≤34):popsN x=mvP x∧(rowOf x.op).pushes=mvQ x:=by
 have h:(x.op==0||((x.op==31||(rowOf x.op).pops==mvP ⟨x.op,0,0,0⟩)&&(rowOf x.op).pushes==mvQ ⟨x.op,0,0,0⟩))=true:=List.all_eq_true.1 moves_all x.op (List.mem_range.2 om)
 rw[Bool.or_eq_true,Bool.and_eq_true,Bool.or_eq_true]at h
 rcases h with h|⟨hp,hq⟩
 ·have:=eq_of_beq h;omega
 refine⟨?_,eq_of_beq hq⟩
 unfold popsN
 by_cases h30:x.op=30
 · rw[if_pos om,h30,row30]
   unfold mvP
   rw[if_neg om,if_neg om,if_neg om,if_neg om,if_neg om,if_pos om]
   omega
 by_cases h31:x.op=31
 · rw[if_pos om,h31,row31]
   unfold mvP
   rw[if_neg om,if_neg om,if_neg om,if_neg om,if_neg om,if_neg om,if_pos om]
   omega
 rw[if_neg om]
 rcases hp with hp|hp
 ·exact absurd (eq_of_beq hp) h31
 rw[eq_of_beq hp]
 have e30:¬((x.op:Nat):Int)=30:=om
 have e31:¬((x.op:Nat):Int)=31:=om
 simp only[mvP,if_neg e30,if_neg e31]
theorem form_eq{pr:Int}{nc:Nat}{x:Ins}(hp:0≤pr∧pr≤4):formR pr nc x=formedB pr nc x:=by
 obtain⟨o,a,b,n⟩:=x
 by_cases ho:1≤o∧o≤34
 · obtain⟨ea,eb,en⟩:=uses_eq ho.1 ho.2
   rw[Bool.eq_iff_iff]
   unfold formR formedB
   rw[ea,eb,en]
   clear ea eb en
   rcases(by omega:o=1∨o=2∨o=3∨o=4∨o=5∨o=6∨o=7∨o=8∨o=9∨o=10∨o=11∨o=12∨o=13∨o=14∨o=15∨o=16∨o=17∨o=18∨o=19∨o=20∨o=21∨o=22∨o=23∨o=24∨o=25∨o=26∨o=27∨o=28∨o=29∨o=30∨o=31∨o=32∨o=33∨o=34)with rfl|rfl|rfl|rfl|rfl|rfl|rfl|rfl|rfl|rfl|rfl|rfl|rfl|rfl|rfl|rfl|rfl|rfl|rfl|rfl|rfl|rfl|rfl|rfl|rfl|rfl|rfl|rfl|rfl|rfl|rfl|rfl|rfl|rfl<;>simp[uA,uB,uN,tgt,jR]<;>omega
 · rw[Bool.eq_iff_iff]
   unfold formR formedB
   simp only[Bool.and_eq_true,Bool.or_eq_true,decide_eq_true_eq,Bool.not_eq_true',Bool.or_eq_false_iff,decide_eq_false_iff_not]
   constructor<;>intro h<;>omega
structure Sp where
 t:Nat
 f:Nat
 v:Int
def Sp.cells(e:Sp):List Value:=[.int .u8 ((e.t:Nat):Int), .int .u8 ((e.f:Nat):Int), .int .i32 e.v]
instance encSp:Enc Sp.cells 3:=⟨fun _=>rfl,fun e u hu=>by
 simp only[Sp.cells,List.mem_cons,List.not_mem_nil,or_false]at hu
 rcases hu with rfl|rfl|rfl<;>rfl⟩
def encY(n:Nat):List Value:=[.int .u8 ((n:Nat):Int)]
instance encY_ok:Enc encY 1:=⟨fun _=>rfl,fun x u hu=>by simp[encY]at hu;subst hu;rfl⟩
section
variable{P:Program}{o:Oper}{ρ:Slots}{Γ:List Chunk}{x y:Operand}{t t':TypeId}{a b j:Nat}
end
end Go.Proofs.YtlihklladkagpaaGreatDoor

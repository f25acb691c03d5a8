/- Merged out of C5, C6, C7, C8, C9, D1 by merge.py. Own text. -/
import Derived.Test.YtihgdnjkofpgiaaGreatDoorCa
set_option linter.unusedVariables false
set_option linter.unusedSimpArgs false
namespace Go.Proofs.YtihgdnjkofpgiaaGreatDoor
open Go.RowKit Go.Flow Go.Mem Go.Sep
def Ins.rc(e:Ins):List Value:=[nv e.op, .int .i64 e.a, .int .i64 e.b, .int .i64 e.n]
instance encRi:Enc Ins.rc 4:=⟨fun _=>rfl,fun e u hu=>by
 simp only[Ins.rc,List.mem_cons,List.not_mem_nil,or_false]at hu
 rcases hu with rfl|rfl|rfl|rfl<;>rfl⟩
def uA(o:Int):Bool:=decide ((2≤o∧o≤4)∨(6≤o∧o≤8)∨(24≤o∧o≤28)∨o=30∨o=33)
def uB(o:Int):Bool:=decide (30≤o∧o≤33)
def uN(o:Int):Bool:=decide (o=1∨o=30∨o=31)
def jR(x:Ins):Int:=if((x.op:Nat):Int)=27∨((x.op:Nat):Int)=28 then x.a else if((x.op:Nat):Int)=32∨((x.op:Nat):Int)=33 then x.b else-1
def mvP(x:Ins):Int:=if((x.op:Nat):Int)≤5∨((x.op:Nat):Int)=8 then 0 else if((x.op:Nat):Int)≤10 then 1 else if((x.op:Nat):Int)≤23 then 2 else
 if((x.op:Nat):Int)=24∨((x.op:Nat):Int)=26∨((x.op:Nat):Int)=28∨((x.op:Nat):Int)=33 then 1 else if((x.op:Nat):Int)=25∨((x.op:Nat):Int)=32 then 2 else
 if((x.op:Nat):Int)=30 then x.n else if((x.op:Nat):Int)=31 then x.n+1 else 0
def mvQ(x:Ins):Int:=if((x.op:Nat):Int)≤23 then 1 else 0
def formR(pr:Int)(nc:Nat)(x:Ins):Bool:=!((decide (((x.op:Nat):Int)<1))||decide (34<((x.op:Nat):Int)))&&(!((!uA ((x.op:Nat):Int)&&decide (x.a≠0))||((!uB ((x.op:Nat):Int)&&decide (x.b≠0))||(!uN ((x.op:Nat):Int)&&decide (x.n≠0))))&&(!((uA ((x.op:Nat):Int)&&(!((decide (((x.op:Nat):Int)=27))||decide (((x.op:Nat):Int)=28))&&(decide (x.a<0)||decide (63<x.a))))||(decide (((x.op:Nat):Int)=3)&&decide (pr≤x.a)))&&(!(((decide (((x.op:Nat):Int)=30))||decide (((x.op:Nat):Int)=31))&&(decide (x.b<0)||(decide (63<x.b)||(decide (x.n<0)||decide (4<x.n)))))&&(!(((decide (((x.op:Nat):Int)=27))||decide (((x.op:Nat):Int)=28))||(decide (((x.op:Nat):Int)=32)||decide (((x.op:Nat):Int)=33)))||(decide (0≤jR x)&&decide (jR x≤((nc:Nat):Int)))))))
theorem To.meetC{C:Cx}{P:Program}{ρ:Slots}{Γ:List Chunk}{Q:Exit→Act→World→Prop}{T:Type}{c:Code}{K:Act→World→Prop}(F:T→Slots×List Chunk)(p:T→Prop)(h:To C ρ Γ (c.wp P (Exit.then (fun a w=>∃t,p t∧Has C.n C.ds (F t).1 a∧Post C.Γ0 (F t).2 C.w0 w) Q)))(k:∀t,p t→To C (F t).1 (F t).2 K):To C ρ Γ (c.wp P (Exit.then K Q)):=fun a w ha hp=>
 Code.wp_mono (fun e a w hq=>by
  cases e with
  |normal=>obtain⟨t,h1,h2,h3⟩:=hq;exact k t h1 a w h2 h3
  |exit id=>exact hq
  |goto l=>exact hq
  |ret=>exact hq
  |panic ch=>exact hq
  |outgrown=>exact hq) (h a w ha hp)
theorem moves_all:((List.range 35).all fun o=>o==0||((o==31||(rowOf o).pops==mvP ⟨o,0,0,0⟩)&&(rowOf o).pushes==mvQ ⟨o,0,0,0⟩))=true:=by kernel_rfl
theorem row31:(rowOf 31).pops=1:=by kernel_rfl
theorem row30:(rowOf 30).pops=0:=by kernel_rfl
theorem moves_eq{x:Ins}(h1:1≤x.op)(h2:x.op≤34):popsN x=mvP x∧(rowOf x.op).pushes=mvQ x:=by
 have h:(x.op==0||((x.op==31||(rowOf x.op).pops==mvP ⟨x.op,0,0,0⟩)&&(rowOf x.op).pushes==mvQ ⟨x.op,0,0,0⟩))=true:=List.all_eq_true.1 moves_all x.op (List.mem_range.2 (by omega))
 rw[Bool.or_eq_true,Bool.and_eq_true,Bool.or_eq_true]at h
 rcases h with h|⟨hp,hq⟩
 ·have:=eq_of_beq h;omega
 refine⟨?_,eq_of_beq hq⟩
 unfold popsN
 by_cases h30:x.op=30
 · rw[if_pos (by omega),h30,row30]
   unfold mvP
   rw[if_neg (by omega),if_neg (by omega),if_neg (by omega),if_neg (by omega),if_neg (by omega),if_pos (by omega)]
   omega
 by_cases h31:x.op=31
 · rw[if_pos (by omega),h31,row31]
   unfold mvP
   rw[if_neg (by omega),if_neg (by omega),if_neg (by omega),if_neg (by omega),if_neg (by omega),if_neg (by omega),if_pos (by omega)]
   omega
 rw[if_neg (by omega)]
 rcases hp with hp|hp
 ·exact absurd (eq_of_beq hp) h31
 rw[eq_of_beq hp]
 have e30:¬((x.op:Nat):Int)=30:=by omega
 have e31:¬((x.op:Nat):Int)=31:=by omega
 simp only[mvP,if_neg e30,if_neg e31]
structure Sp where
 t:Nat
 f:Nat
 v:Int
def Sp.cells(e:Sp):List Value:=[.int .u8 ((e.t:Nat):Int), .int .u8 ((e.f:Nat):Int), .int .i32 e.v]
instance encSp:Enc Sp.cells 3:=⟨fun _=>rfl,fun e u hu=>by
 simp only[Sp.cells,List.mem_cons,List.not_mem_nil,or_false]at hu
 rcases hu with rfl|rfl|rfl<;>rfl⟩
def encY(n:Nat):List Value:=[.int .u8 ((n:Nat):Int)]
instance encY_ok:Enc encY 1:=⟨fun _=>rfl,fun x u hu=>by simp[encY]at hu;subst hu;rfl⟩
section
variable{P:Program}{o:Oper}{ρ:Slots}{Γ:List Chunk}{x y:Operand}{t t':TypeId}{a b j:Nat}
end
end Go.Proofs.YtihgdnjkofpgiaaGreatDoor

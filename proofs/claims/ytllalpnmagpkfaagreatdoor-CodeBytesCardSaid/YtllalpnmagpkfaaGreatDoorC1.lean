/- Instructions, and where they jump. Own text (walks printed by sx.py). -/
import Derived.Test.YtllalpnmagpkfaaGreatDoorL2
import Derived.Test.YtllalpnmagpkfaaGreatDoorT
set_option linter.unusedVariables false
set_option linter.unusedSimpArgs false
namespace Go.Proofs.YtllalpnmagpkfaaGreatDoor
open Go.RowKit Go.Flow Go.Mem Go.Sep
def encI (n : Int) : List Value := [.int .i64 n]
theorem encI_ok : Enc encI 1 := ⟨fun _ => rfl, fun x u hu => by simp [encI] at hu; subst hu; rfl⟩
structure Ins where
 op : Nat
 a : Int
 b : Int
 n : Int
deriving DecidableEq
def Ins.cells (e : Ins) : List Value := [.int .u8 ((e.op : Nat) : Int), .int .i64 e.a, .int .i64 e.b, .int .i64 e.n]
theorem encIn : Enc Ins.cells 4 := ⟨fun _ => rfl, fun e u hu => by
 simp only [Ins.cells, List.mem_cons, List.not_mem_nil, or_false] at hu
 rcases hu with rfl | rfl | rfl | rfl <;> rfl⟩
structure Tb where
 A : Option Addr
 q : Nat
 l : List (Int × Int)
def Tb.cells (e : Tb) : List Value := [.slice e.A e.l.length e.q]
def Tb.ar (e : Tb) : Option Addr × List (Int × Int) := (e.A, e.l)
structure Ef where
 k : Int
 to : Int
 h : Int
 d : Int
 key : Int
 v : Int
 f : Bool
 A : Option Addr
 q : Nat
 args : List Int
def Ef.cells (e : Ef) : List Value := [.int .u8 e.k, .int .i64 e.to, .int .i64 e.h, .int .i64 e.d, .int .i64 e.key, .int .i64 e.v, .bool e.f, .slice e.A e.args.length e.q]
def Ef.ar (e : Ef) : Option Addr × List Int := (e.A, e.args)
def tgt (i : Ins) : Option Int := if (i.op : Int) = 27 ∨ (i.op : Int) = 28 then some i.a else if (i.op : Int) = 32 ∨ (i.op : Int) = 33 then some i.b else none
end Go.Proofs.YtllalpnmagpkfaaGreatDoor

/- The table of the operations, and the form of an instruction. Own text (walks printed by sx.py). -/
import Derived.Test.YtllalpnmagpkfaaGreatDoorC1
set_option linter.unusedVariables false
set_option linter.unusedSimpArgs false
namespace Go.Proofs.YtllalpnmagpkfaaGreatDoor
open Go.RowKit Go.Flow Go.Mem Go.Sep
structure Rw where
 text : ByteArray
 uses : ByteArray
 pops : Int
 pushes : Int
def Rw.cells (e : Rw) : List Value := [.string e.text, .string e.uses, .int .i64 e.pops, .int .i64 e.pushes]
def rowTab : List Rw := [⟨⟨#[]⟩, ⟨#[]⟩, 0, 0⟩, ⟨⟨#[99, 111, 110, 115, 116]⟩, ⟨#[78]⟩, 0, 1⟩, ⟨⟨#[118, 97, 114]⟩, ⟨#[65]⟩, 0, 1⟩, ⟨⟨#[112, 97, 114, 97, 109]⟩, ⟨#[65]⟩, 0, 1⟩, ⟨⟨#[102, 108, 97, 103]⟩, ⟨#[65]⟩, 0, 1⟩, ⟨⟨#[110, 111, 119]⟩, ⟨#[]⟩, 0, 1⟩, ⟨⟨#[103, 101, 116]⟩, ⟨#[65]⟩, 1, 1⟩, ⟨⟨#[104, 97, 115]⟩, ⟨#[65]⟩, 1, 1⟩, ⟨⟨#[115, 105, 122, 101]⟩, ⟨#[65]⟩, 0, 1⟩, ⟨⟨#[110, 101, 103]⟩, ⟨#[]⟩, 1, 1⟩, ⟨⟨#[110, 111, 116]⟩, ⟨#[]⟩, 1, 1⟩, ⟨⟨#[109, 117, 108]⟩, ⟨#[]⟩, 2, 1⟩, ⟨⟨#[100, 105, 118]⟩, ⟨#[]⟩, 2, 1⟩, ⟨⟨#[109, 111, 100]⟩, ⟨#[]⟩, 2, 1⟩, ⟨⟨#[97, 100, 100]⟩, ⟨#[]⟩, 2, 1⟩, ⟨⟨#[115, 117, 98]⟩, ⟨#[]⟩, 2, 1⟩, ⟨⟨#[101, 113]⟩, ⟨#[]⟩, 2, 1⟩, ⟨⟨#[110, 101]⟩, ⟨#[]⟩, 2, 1⟩, ⟨⟨#[108, 116]⟩, ⟨#[]⟩, 2, 1⟩, ⟨⟨#[108, 101]⟩, ⟨#[]⟩, 2, 1⟩, ⟨⟨#[103, 116]⟩, ⟨#[]⟩, 2, 1⟩, ⟨⟨#[103, 101]⟩, ⟨#[]⟩, 2, 1⟩, ⟨⟨#[97, 110, 100]⟩, ⟨#[]⟩, 2, 1⟩, ⟨⟨#[111, 114]⟩, ⟨#[]⟩, 2, 1⟩, ⟨⟨#[115, 101, 116, 118, 97, 114]⟩, ⟨#[65]⟩, 1, 0⟩, ⟨⟨#[112, 117, 116]⟩, ⟨#[65]⟩, 2, 0⟩, ⟨⟨#[100, 101, 108, 101, 116, 101]⟩, ⟨#[65]⟩, 1, 0⟩, ⟨⟨#[106, 117, 109, 112]⟩, ⟨#[65]⟩, 0, 0⟩, ⟨⟨#[98, 114, 97, 110, 99, 104]⟩, ⟨#[65]⟩, 1, 0⟩, ⟨⟨#[99, 111, 115, 116]⟩, ⟨#[]⟩, 0, 0⟩, ⟨⟨#[115, 101, 110, 100]⟩, ⟨#[65, 66, 78]⟩, 0, 0⟩, ⟨⟨#[97, 102, 116, 101, 114]⟩, ⟨#[66, 78]⟩, 1, 0⟩, ⟨⟨#[115, 116, 111, 114, 101]⟩, ⟨#[66]⟩, 2, 0⟩, ⟨⟨#[102, 101, 116, 99, 104]⟩, ⟨#[65, 66]⟩, 1, 0⟩, ⟨⟨#[115, 116, 111, 112]⟩, ⟨#[]⟩, 0, 0⟩]
def rowOf (o : Nat) : Rw := rowTab.getD o ⟨⟨#[]⟩, ⟨#[]⟩, 0, 0⟩
def usesB (o : Nat) (c : Int) : Bool := decide (0 ≤ Lib.indexByte (rowOf o).uses.data.toList c.toNat.toUInt8)
abbrev tabC : Chunk := ros Rw.cells (some ⟨0, 0, none⟩) rowTab
def formedB (pr : Int) (nc : Nat) (x : Ins) : Bool :=
 decide (1 ≤ (x.op : Int)) && decide ((x.op : Int) ≤ 34) && !(!usesB x.op 65 && decide (x.a ≠ 0)) && !(!usesB x.op 66 && decide (x.b ≠ 0)) && !(!usesB x.op 78 && decide (x.n ≠ 0)) &&
 !((tgt x).isSome && (decide ((tgt x).getD 0 < 0) || decide (((nc : Nat) : Int) < (tgt x).getD 0))) &&
 (if (x.op : Int) = 27 ∨ (x.op : Int) = 28 ∨ (x.op : Int) = 32 then true else if (x.op : Int) = 3 then decide (0 ≤ x.a) && decide (x.a < pr) else
  if ((x.op : Int) = 30 ∨ (x.op : Int) = 31) ∧ (x.b < 0 ∨ 63 < x.b ∨ x.n < 0 ∨ 4 < x.n) then false else decide (0 ≤ x.a) && decide (x.a ≤ 63))
end Go.Proofs.YtllalpnmagpkfaaGreatDoor

/- States out of worlds. Own text (walks printed by sx.py). -/
import Derived.Test.YtoehnbacbobhiaaGreatDoorL1
import Derived.Test.YtoehnbacbobhiaaGreatDoorX18
import Derived.Test.YtoehnbacbobhiaaGreatDoorL3
set_option linter.unusedVariables false
set_option linter.unusedSimpArgs false
namespace Go.Proofs.YtoehnbacbobhiaaGreatDoor
open Go.RowKit Go.Flow Go.Mem Go.Sep
def encY (n : Nat) : List Value := [.int .u8 ((n : Nat) : Int)]
theorem encY_ok : Enc encY 1 := ⟨fun _ => rfl, fun x u hu => by simp [encY] at hu; subst hu; rfl⟩
structure Wx where
  Av : Option Addr
  qv : Nat
  vars : List Int
  At : Option Addr
  qt : Nat
  tabs : List (Int × Int)
  Ad : Option Addr
  qd : Nat
  disk : List (Int × Int)
  Aa : Option Addr
  qa : Nat
  args : List Int
  now : Int
  flags : Nat
  before : Nat
  Af : Option Addr
  qf : Nat
  fail : List Nat
def Wx.cells (w : Wx) : List Value := [.slice w.Av w.vars.length w.qv, .slice w.At w.tabs.length w.qt, .slice w.Ad w.disk.length w.qd, .slice w.Aa w.args.length w.qa, .int .i64 w.now, .int .u8 ((w.flags : Nat) : Int), .int .u8 ((w.before : Nat) : Int), .slice w.Af w.fail.length w.qf]
structure Wx.ok (w : Wx) : Prop where
  qt : w.tabs.length ≤ w.qt
  qd : w.disk.length ≤ w.qd
  before : w.before < 256
def padV (l : List Int) (n : Nat) : List Int := (List.range n).map fun i => l.getD i 0
def tabsV (l : List (Int × Int)) (n : Nat) : List (List (Int × Int)) := (List.range n).map fun i => ofT (l.take (16 - i))
def stV (w : Wx) (nv nt : Nat) : List Int × List (List (Int × Int)) × List (Int × Int) := (padV w.vars nv, tabsV w.tabs nt, ofT (w.disk.take 16))
theorem pad_succ (l : List Int) (n : Nat) : padV l (n + 1) = padV l n ++ [l.getD n 0] := by simp [padV, List.range_succ]
theorem pad_len (l : List Int) (n : Nat) : (padV l n).length = n := by simp [padV]
theorem tabs_succ (l : List (Int × Int)) (n : Nat) : tabsV l (n + 1) = tabsV l n ++ [ofT (l.take (16 - n))] := by simp [tabsV, List.range_succ]
theorem tabs_len (l : List (Int × Int)) (n : Nat) : (tabsV l n).length = n := by simp [tabsV]
theorem fam_snoc {T : List Tb} {e : Tb} {Γ : List Chunk} (h : Γ[0]? = some (ros encEn e.A e.l)) : ∀ p ∈ (T ++ [e]).map Tb.ar, p ∈ T.map Tb.ar ∨ ros encEn p.1 p.2 ∈ Γ := fun p hp => by
  rw [List.map_append] at hp
  rcases List.mem_append.1 hp with h1 | h1
  · exact .inl h1
  · rw [List.mem_singleton.1 h1]; exact .inr (List.mem_of_getElem? h)
end Go.Proofs.YtoehnbacbobhiaaGreatDoor

/- States compared; a list cut. Own text (walks printed by sx.py). -/
import Derived.Test.YtoehnbacbobhiaaGreatDoorL1
import Derived.Test.YtoehnbacbobhiaaGreatDoorX14
set_option linter.unusedVariables false
set_option linter.unusedSimpArgs false
namespace Go.Proofs.YtoehnbacbobhiaaGreatDoor
open Go.RowKit Go.Flow Go.Mem Go.Sep
structure Sx where
  Av : Option Addr
  qv : Nat
  vars : List Int
  At : Option Addr
  qt : Nat
  tabs : List Tb
  dk : Tb
def Sx.cells (s : Sx) : List Value := [.slice s.Av s.vars.length s.qv, .slice s.At s.tabs.length s.qt, .slice s.dk.A s.dk.l.length s.dk.q]
def Sx.val (s : Sx) : List Int × List (List (Int × Int)) × List (Int × Int) := (s.vars, s.tabs.map Tb.l, s.dk.l)
set_option maxHeartbeats 2000000 in
set_option maxRecDepth 100000 in
theorem pairs_fn (A : Option Addr) (q n : Nat) (l : List (Int × Int)) (hq : l.length ≤ q) :
    Does Tryz.prog 12 [.slice A l.length q, .int .i64 ((n : Nat) : Int)] [] (fun v _ => v = .slice A (l.take n).length q) := by
  refine Does.enter Tryz.func12 rfl Tryz.ntmps12 rfl (fun w0 => ?_)
  refine To.seq (To.reg (To.a (To.nil (To.thenN (To.seq ?_)))))
  have hln : (l.take n).length ≤ q := by rw [List.length_take]; omega
  refine To.reg (To.m ?_)
  refine To.m ?_
  refine To.r (Rd.len rfl rfl Tryz.underlying25) ?_
  refine To.m ?_
  refine To.r (Rd.minTake (l := l) (n := n) rfl rfl rfl) ?_
  refine To.r (Rd.sliceHi (hi := ((l.take n).length)) rfl s25 rfl rfl (by omega)) ?_
  refine To.a (To.nil (To.thenN (To.ret ?_)))
  refine To.end1 (.inl rfl) Tryz.results12 rfl ?_
  rfl
end Go.Proofs.YtoehnbacbobhiaaGreatDoor

/- Instructions, and where they jump. Own text (walks printed by sx.py). -/
import Derived.Test.YtllalpnmagpkfaaGreatDoorL2
import Derived.Test.YtllalpnmagpkfaaGreatDoorT
set_option linter.unusedVariables false
set_option linter.unusedSimpArgs false
set_option maxHeartbeats 2000000
set_option maxRecDepth 100000
namespace Go.Proofs.YtllalpnmagpkfaaGreatDoor
open Go.RowKit Go.Flow Go.Mem Go.Sep
def encI (n : Int) : List Value := [.int .i64 n]
theorem encI_ok : Enc encI 1 := ⟨fun _ => rfl, fun x u hu => by simp [encI] at hu; subst hu; rfl⟩
structure Ins where
 op : Nat
 a : Int
 b : Int
 n : Int
deriving DecidableEq
def Ins.cells (e : Ins) : List Value := [.int .u8 ((e.op : Nat) : Int), .int .i64 e.a, .int .i64 e.b, .int .i64 e.n]
theorem encIn : Enc Ins.cells 4 := ⟨fun _ => rfl, fun e u hu => by
 simp only [Ins.cells, List.mem_cons, List.not_mem_nil, or_false] at hu
 rcases hu with rfl | rfl | rfl | rfl <;> rfl⟩
structure Tb where
 A : Option Addr
 q : Nat
 l : List (Int × Int)
def Tb.cells (e : Tb) : List Value := [.slice e.A e.l.length e.q]
def Tb.ar (e : Tb) : Option Addr × List (Int × Int) := (e.A, e.l)
structure Ef where
 k : Int
 to : Int
 h : Int
 d : Int
 key : Int
 v : Int
 f : Bool
 A : Option Addr
 q : Nat
 args : List Int
def Ef.cells (e : Ef) : List Value := [.int .u8 e.k, .int .i64 e.to, .int .i64 e.h, .int .i64 e.d, .int .i64 e.key, .int .i64 e.v, .bool e.f, .slice e.A e.args.length e.q]
def Ef.ar (e : Ef) : Option Addr × List Int := (e.A, e.args)
def tgt (i : Ins) : Option Int := if (i.op : Int) = 27 ∨ (i.op : Int) = 28 then some i.a else if (i.op : Int) = 32 ∨ (i.op : Int) = 33 then some i.b else none
theorem tgt_fn (x : Ins) :
    Does Tryz.prog 134 [.agg (Ins.cells x).toArray] [] (fun v _ => v = .tuple #[.int .i64 ((tgt x).getD 0), .bool (tgt x).isSome]) := by
 refine Does.enter Tryz.func134 rfl Tryz.ntmps134 rfl (fun w0 => ?_)
 refine To.s (To.g ?_)
 refine To.boxed rfl rfl rfl rfl rfl rfl (fun b1 => ?_)
 refine To.a ?_
 refine To.a (To.n (To.t (To.s (To.s (To.g ?_)))))
 refine To.f fl109_0 ?_
 refine To.lo 0 c107 ?_
 refine To.n (To.t (To.b (To.s (To.s (To.g ?_)))))
 refine To.eq ?_
 refine To.a (To.n (To.t ?_))
 refine To.cp rfl (fun k6 => ?_) (fun k6 => ?_)
 refine To.sp (To.t ?_)
 refine To.condT (congrArg (fun b => some (Value.bool b)) (decide_eq_true k6)) ?_
 refine To.s (To.g ?_)
 refine To.f fl109_1 ?_
 refine To.lo 0 c3 ?_
 refine To.a ?_
 refine To.a (To.n (To.t (To.rt (To.br (To.tr ?_)))))
 refine To.end2 (.inl rfl) Tryz.results134 rfl rfl ?_
 simp [tgt, k6]
 refine To.g ?_
 refine To.eq ?_
 refine To.a (To.n (To.t ?_))
 refine To.cp rfl (fun k6_2 => ?_) (fun k6_2 => ?_)
 refine To.s (To.g ?_)
 refine To.f fl109_1 ?_
 refine To.lo 0 c3 ?_
 refine To.a ?_
 refine To.a (To.n (To.t (To.rt (To.br (To.tr ?_)))))
 refine To.end2 (.inl rfl) Tryz.results134 rfl rfl ?_
 simp [tgt, k6_2]
 refine To.s (To.s (To.g ?_))
 refine To.eq ?_
 refine To.a (To.n (To.t ?_))
 refine To.cp rfl (fun k11 => ?_) (fun k11 => ?_)
 refine To.sp (To.t ?_)
 refine To.condT (congrArg (fun b => some (Value.bool b)) (decide_eq_true k11)) ?_
 refine To.s (To.g ?_)
 refine To.f fl109_2 ?_
 refine To.lo 0 c3 ?_
 refine To.a ?_
 refine To.a (To.n (To.t (To.rt (To.br (To.tr ?_)))))
 refine To.end2 (.inl rfl) Tryz.results134 rfl rfl ?_
 simp [tgt, k11]
 refine To.g ?_
 refine To.eq ?_
 refine To.a (To.n (To.t ?_))
 refine To.cp rfl (fun k11_2 => ?_) (fun k11_2 => ?_)
 refine To.s (To.g ?_)
 refine To.f fl109_2 ?_
 refine To.lo 0 c3 ?_
 refine To.a ?_
 refine To.a (To.n (To.t (To.rt (To.br (To.tr ?_)))))
 refine To.end2 (.inl rfl) Tryz.results134 rfl rfl ?_
 simp [tgt, k11_2]
 refine To.sp (To.bn (To.t (To.s (To.g (To.a ?_)))))
 refine To.a (To.n (To.t (To.rt ?_)))
 refine To.end2 (.inl rfl) Tryz.results134 rfl rfl ?_
 simp [tgt, k6, k6_2, k11, k11_2]
end Go.Proofs.YtllalpnmagpkfaaGreatDoor

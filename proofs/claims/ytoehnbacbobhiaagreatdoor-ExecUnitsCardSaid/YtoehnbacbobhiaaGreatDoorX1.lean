/- Instructions and their numbers: operators, operands, jumps. Own text (walks printed by sx.py). -/
import Derived.Test.YtoehnbacbobhiaaGreatDoorL1
import Derived.Test.YtoehnbacbobhiaaGreatDoorL2
import Derived.Test.YtoehnbacbobhiaaGreatDoorT
set_option linter.unusedVariables false
set_option linter.unusedSimpArgs false
namespace Go.Proofs.YtoehnbacbobhiaaGreatDoor
open Go.RowKit Go.Flow Go.Mem Go.Sep
def encI (n : Int) : List Value := [.int .i64 n]
theorem encI_ok : Enc encI 1 := ⟨fun _ => rfl, fun x u hu => by simp [encI] at hu; subst hu; rfl⟩
def encB (b : Bool) : List Value := [.bool b]
theorem encB_ok : Enc encB 1 := ⟨fun _ => rfl, fun x u hu => by simp [encB] at hu; subst hu; rfl⟩
structure Ins where
  op : Nat
  a : Int
  b : Int
  n : Int
deriving DecidableEq
def Ins.cells (e : Ins) : List Value := [.int .u8 ((e.op : Nat) : Int), .int .i64 e.a, .int .i64 e.b, .int .i64 e.n]
theorem encIn : Enc Ins.cells 4 := ⟨fun _ => rfl, fun e u hu => by
  simp only [Ins.cells, List.mem_cons, List.not_mem_nil, or_false] at hu
  rcases hu with rfl | rfl | rfl | rfl <;> rfl⟩
def encEn (e : Int × Int) : List Value := [.int .i64 e.1, .int .i64 e.2]
theorem encEn_ok : Enc encEn 2 := ⟨fun _ => rfl, fun e u hu => by
  simp only [encEn, List.mem_cons, List.not_mem_nil, or_false] at hu
  rcases hu with rfl | rfl <;> rfl⟩
structure Tb where
  A : Option Addr
  q : Nat
  l : List (Int × Int)
def Tb.cells (e : Tb) : List Value := [.slice e.A e.l.length e.q]
theorem encTb : Enc Tb.cells 1 := ⟨fun _ => rfl, fun e u hu => by
  simp only [Tb.cells, List.mem_cons, List.not_mem_nil, or_false] at hu
  subst hu; rfl⟩
def Tb.ar (e : Tb) : Option Addr × List (Int × Int) := (e.A, e.l)
structure Ef where
  k : Int
  to : Int
  h : Int
  d : Int
  key : Int
  v : Int
  f : Bool
  A : Option Addr
  q : Nat
  args : List Int
def Ef.cells (e : Ef) : List Value := [.int .u8 e.k, .int .i64 e.to, .int .i64 e.h, .int .i64 e.d, .int .i64 e.key, .int .i64 e.v, .bool e.f, .slice e.A e.args.length e.q]
theorem encEf : Enc Ef.cells 8 := ⟨fun _ => rfl, fun e u hu => by
  simp only [Ef.cells, List.mem_cons, List.not_mem_nil, or_false] at hu
  rcases hu with rfl | rfl | rfl | rfl | rfl | rfl | rfl | rfl <;> rfl⟩
def Ef.ar (e : Ef) : Option Addr × List Int := (e.A, e.args)
def tru (b : Bool) : Int := if b = true then 1 else 0
def unV (op a : Int) : Int := if op = 9 then W64 (-a) else if op = 10 then tru (decide (a = 0)) else 0
def unE (op : Int) : Int := if op = 9 ∨ op = 10 then 0 else 1
def binE (op : Int) : Int := if op = 11 ∨ op = 12 ∨ op = 13 ∨ op = 14 ∨ op = 15 ∨ op = 16 ∨ op = 17 ∨ op = 18 ∨ op = 19 ∨ op = 20 ∨ op = 21 ∨ op = 22 ∨ op = 23 then 0 else 1
def divV (op a b : Int) : Int := if b = 0 then 0 else if b = -1 ∧ op = 12 then W64 (-a) else if b = -1 then 0 else if op = 12 then W64 (a.tdiv b) else a.tmod b
def binV (op a b : Int) : Int :=
  if op = 11 then W64 (a * b) else if op = 12 ∨ op = 13 then divV op a b else if op = 14 then W64 (a + b) else if op = 15 then W64 (a - b) else
  if op = 16 then tru (decide (a = b)) else if op = 17 then tru (decide (a ≠ b)) else if op = 18 then tru (decide (a < b)) else if op = 19 then tru (decide (a ≤ b)) else
  if op = 20 then tru (decide (b < a)) else if op = 21 then tru (decide (b ≤ a)) else if op = 22 then tru (decide (a ≠ 0 ∧ b ≠ 0)) else if op = 23 then tru (decide (a ≠ 0 ∨ b ≠ 0)) else 0
set_option maxHeartbeats 2000000 in
set_option maxRecDepth 100000 in
theorem etru_fn (b : Bool) :
    Does Tryz.prog 84 [.bool b] [] (fun v _ => v = .int .i64 (tru b)) := by
  refine Does.enter Tryz.func84 rfl Tryz.ntmps84 rfl (fun w0 => ?_)
  refine To.seq (To.reg (To.a (To.nil (To.thenN (To.seq (To.seq (To.reg ?_)))))))
  refine To.m (To.nil (To.thenN ?_))
  refine To.cond rfl (fun c3 => ?_) (fun c3 => ?_)
  ·
   refine To.seq (To.reg (To.a (To.nil (To.thenN (To.ret (To.thenR ?_))))))
   refine To.end1 (.inl rfl) Tryz.results84 rfl ?_
   subst c3; rfl
  refine To.skip (To.thenN (To.seq (To.reg (To.a (To.nil (To.thenN (To.ret ?_)))))))
  refine To.end1 (.inl rfl) Tryz.results84 rfl ?_
  subst c3; rfl
set_option maxHeartbeats 2000000 in
set_option maxRecDepth 100000 in
theorem xtru_fn (b : Bool) :
    Does Tryz.prog 64 [.bool b] [] (fun v _ => v = .int .i64 (tru b)) := by
  refine Does.enter Tryz.func64 rfl Tryz.ntmps64 rfl (fun w0 => ?_)
  refine To.seq (To.reg (To.a (To.nil (To.thenN (To.seq (To.seq (To.reg ?_)))))))
  refine To.m (To.nil (To.thenN ?_))
  refine To.cond rfl (fun c3 => ?_) (fun c3 => ?_)
  ·
   refine To.seq (To.reg (To.a (To.nil (To.thenN (To.ret (To.thenR ?_))))))
   refine To.end1 (.inl rfl) Tryz.results64 rfl ?_
   subst c3; rfl
  refine To.skip (To.thenN (To.seq (To.reg (To.a (To.nil (To.thenN (To.ret ?_)))))))
  refine To.end1 (.inl rfl) Tryz.results64 rfl ?_
  subst c3; rfl
set_option maxHeartbeats 2000000 in
set_option maxRecDepth 100000 in
theorem un_fn (op a : Int) :
    Does Tryz.prog 65 [.int .u8 op, .int .i64 a] [] (fun v _ => v = .tuple #[.int .i64 (unV op a), .int .i64 (unE op)]) := by
  refine Does.enter Tryz.func65 rfl Tryz.ntmps65 rfl (fun w0 => ?_)
  refine To.seq (To.reg (To.a ?_))
  refine To.a (To.nil (To.thenN (To.seq (To.seq (To.reg ?_)))))
  refine To.m (To.nil (To.thenN (To.block (To.seq (To.reg ?_)))))
  refine To.r (Rd.eql rfl rfl rfl) ?_
  refine To.a (To.nil (To.thenN ?_))
  refine To.condP rfl (fun k7 => ?_) (fun k7 => ?_)
  ·
   refine To.seq (To.reg (To.m ?_))
   refine To.r (Rd.negW rfl rfl) ?_
   refine To.a ?_
   refine To.a (To.nil (To.thenN (To.ret (To.blockR (To.thenR ?_)))))
   refine To.end2 (.inl rfl) Tryz.results65 rfl rfl ?_
   simp [unV, unE, k7]
  refine To.seq (To.reg ?_)
  refine To.r (Rd.eql rfl rfl rfl) ?_
  refine To.a (To.nil (To.thenN ?_))
  refine To.condP rfl (fun k11 => ?_) (fun k11 => ?_)
  ·
   refine To.seq (To.reg (To.m ?_))
   refine To.r (Rd.eql rfl rfl rfl) ?_
   refine To.callV rfl rfl rfl (Ent.fn rfl rfl ca84) (etru_fn (decide (a = 0))) rfl (oks_nil _) ?_
   refine To.a ?_
   refine To.a (To.nil (To.thenN (To.ret (To.blockR (To.thenR ?_)))))
   refine To.end2 (.inl rfl) Tryz.results65 rfl rfl ?_
   simp [unV, unE, k11]
  refine To.skip (To.blockN (To.thenN (To.seq (To.reg (To.a ?_)))))
  refine To.a (To.nil (To.thenN (To.ret ?_)))
  refine To.end2 (.inl rfl) Tryz.results65 rfl rfl ?_
  simp [unV, unE, k7, k11]
set_option maxHeartbeats 2000000 in
set_option maxRecDepth 100000 in
theorem div_fn (op a b : Int) :
    Does Tryz.prog 90 [.int .u8 op, .int .i64 a, .int .i64 b] [] (fun v _ => v = .int .i64 (divV op a b)) := by
  refine Does.enter Tryz.func90 rfl Tryz.ntmps90 rfl (fun w0 => ?_)
  refine To.seq (To.reg (To.a (To.nil (To.thenN (To.seq (To.block (To.seq (To.reg ?_))))))))
  refine To.m ?_
  refine To.r (Rd.eql rfl rfl rfl) ?_
  refine To.a (To.nil (To.thenN ?_))
  refine To.condP rfl (fun k7 => ?_) (fun k7 => ?_)
  ·
   refine To.seq (To.reg (To.a (To.nil (To.thenN (To.ret (To.blockR (To.thenR ?_)))))))
   refine To.end1 (.inl rfl) Tryz.results90 rfl ?_
   first | (exfalso; omega) | simp [divV, k7]
  refine To.seq (To.reg (To.m ?_))
  refine To.r (Rd.eql rfl rfl rfl) ?_
  refine To.rdP rfl rfl rfl (Rd.move rfl rfl) (fun g13 => ?_) (fun g13 => ?_)
  ·
   refine To.m ?_
   refine To.r (Rd.eql rfl rfl rfl) ?_
   refine To.r (Rd.pickT rfl rfl rfl) ?_
   refine To.a (To.nil (To.thenN ?_))
   refine To.condP rfl (fun k10 => ?_) (fun k10 => ?_)
   ·
    refine To.seq (To.reg (To.m ?_))
    refine To.r (Rd.negW rfl rfl) ?_
    refine To.a (To.nil (To.thenN (To.ret (To.blockR (To.thenR ?_)))))
    refine To.end1 (.inl rfl) Tryz.results90 rfl ?_
    first | (exfalso; omega) | simp [divV, k7, g13, k10]
   refine To.seq (To.reg (To.m ?_))
   refine To.r (Rd.eql rfl rfl rfl) ?_
   refine To.a (To.nil (To.thenN ?_))
   refine To.condP rfl (fun k19 => ?_) (fun k19 => ?_)
   ·
    refine To.seq (To.reg (To.a (To.nil (To.thenN (To.ret (To.blockR (To.thenR ?_)))))))
    refine To.end1 (.inl rfl) Tryz.results90 rfl ?_
    first | (exfalso; omega) | simp [divV, k7, g13, k10, k19]
   refine To.seq (To.reg (To.m ?_))
   refine To.r (Rd.eql rfl rfl rfl) ?_
   refine To.a (To.nil (To.thenN ?_))
   refine To.condF (congrArg (fun b => some (Value.bool b)) (decide_eq_false k10)) ?_
   refine To.skip (To.blockN (To.thenN (To.seq (To.reg (To.m ?_)))))
   refine To.m ?_
   refine To.r (Rd.remW rfl rfl rfl (by assumption)) ?_
   refine To.a (To.nil (To.thenN (To.ret ?_)))
   refine To.end1 (.inl rfl) Tryz.results90 rfl ?_
   first | (exfalso; omega) | simp [divV, k7, g13, k10, k19]
  refine To.k ?_
  refine To.k ?_
  refine To.r (Rd.pickF rfl rfl rfl) ?_
  refine To.a (To.nil (To.thenN ?_))
  refine To.condF rfl ?_
  refine To.seq (To.reg (To.m ?_))
  refine To.r (Rd.eql rfl rfl rfl) ?_
  refine To.a (To.nil (To.thenN ?_))
  refine To.condP rfl (fun k19 => ?_) (fun k19 => ?_)
  ·
   refine To.seq (To.reg (To.a (To.nil (To.thenN (To.ret (To.blockR (To.thenR ?_)))))))
   refine To.end1 (.inl rfl) Tryz.results90 rfl ?_
   first | (exfalso; omega) | simp [divV, k7, g13, k19]
  refine To.seq (To.reg (To.m ?_))
  refine To.r (Rd.eql rfl rfl rfl) ?_
  refine To.a (To.nil (To.thenN ?_))
  refine To.condP rfl (fun k22 => ?_) (fun k22 => ?_)
  ·
   refine To.seq (To.reg (To.m ?_))
   refine To.m ?_
   refine To.r (Rd.quoW rfl rfl rfl (by assumption)) ?_
   refine To.a (To.nil (To.thenN (To.ret (To.blockR (To.thenR ?_)))))
   refine To.end1 (.inl rfl) Tryz.results90 rfl ?_
   first | (exfalso; omega) | simp [divV, k7, g13, k19, k22]
  refine To.skip (To.blockN (To.thenN (To.seq (To.reg (To.m ?_)))))
  refine To.m ?_
  refine To.r (Rd.remW rfl rfl rfl (by assumption)) ?_
  refine To.a (To.nil (To.thenN (To.ret ?_)))
  refine To.end1 (.inl rfl) Tryz.results90 rfl ?_
  first | (exfalso; omega) | simp [divV, k7, g13, k19, k22]
set_option maxHeartbeats 2000000 in
set_option maxRecDepth 100000 in
theorem bin_fn (op a b : Int) :
    Does Tryz.prog 70 [.int .u8 op, .int .i64 a, .int .i64 b] [] (fun v _ => v = .tuple #[.int .i64 (binV op a b), .int .i64 (binE op)]) := by
  refine Does.enter Tryz.func70 rfl Tryz.ntmps70 rfl (fun w0 => ?_)
  refine To.seq (To.reg (To.a ?_))
  refine To.a (To.nil (To.thenN (To.seq (To.seq (To.reg ?_)))))
  refine To.m (To.nil (To.thenN (To.block (To.seq (To.reg ?_)))))
  refine To.r (Rd.eql rfl rfl rfl) ?_
  refine To.a (To.nil (To.thenN ?_))
  refine To.condP rfl (fun k9 => ?_) (fun k9 => ?_)
  ·
   refine To.seq (To.reg (To.m ?_))
   refine To.m ?_
   refine To.r (Rd.mulW rfl rfl rfl) ?_
   refine To.a ?_
   refine To.a (To.nil (To.thenN (To.ret (To.blockR (To.thenR ?_)))))
   refine To.end2 (.inl rfl) Tryz.results70 rfl rfl ?_
   simp [binV, binE, k9]
  refine To.seq (To.seq (To.reg ?_))
  refine To.r (Rd.eql rfl rfl rfl) ?_
  refine To.a (To.nil (To.thenN ?_))
  refine To.condP rfl (fun k14 => ?_) (fun k14 => ?_)
  ·
   refine To.skip (To.thenN ?_)
   refine To.condT (congrArg (fun b => some (Value.bool b)) (decide_eq_true k14)) ?_
   refine To.seq (To.reg (To.m ?_))
   refine To.m ?_
   refine To.m ?_
   refine To.callV rfl rfl rfl (Ent.fn rfl rfl ca90) (div_fn op a b) rfl (oks_nil _) ?_
   refine To.a ?_
   refine To.a (To.nil (To.thenN (To.ret (To.blockR (To.thenR ?_)))))
   refine To.end2 (.inl rfl) Tryz.results70 rfl rfl ?_
   simp [binV, binE, k14]
  refine To.reg ?_
  refine To.r (Rd.eql rfl rfl rfl) ?_
  refine To.a (To.nil (To.thenN ?_))
  refine To.condP rfl (fun k14_2 => ?_) (fun k14_2 => ?_)
  ·
   refine To.seq (To.reg (To.m ?_))
   refine To.m ?_
   refine To.m ?_
   refine To.callV rfl rfl rfl (Ent.fn rfl rfl ca90) (div_fn op a b) rfl (oks_nil _) ?_
   refine To.a ?_
   refine To.a (To.nil (To.thenN (To.ret (To.blockR (To.thenR ?_)))))
   refine To.end2 (.inl rfl) Tryz.results70 rfl rfl ?_
   simp [binV, binE, k14_2]
  refine To.seq (To.reg ?_)
  refine To.r (Rd.eql rfl rfl rfl) ?_
  refine To.a (To.nil (To.thenN ?_))
  refine To.condP rfl (fun k21 => ?_) (fun k21 => ?_)
  ·
   refine To.seq (To.reg (To.m ?_))
   refine To.m ?_
   refine To.r (Rd.addW rfl rfl rfl) ?_
   refine To.a ?_
   refine To.a (To.nil (To.thenN (To.ret (To.blockR (To.thenR ?_)))))
   refine To.end2 (.inl rfl) Tryz.results70 rfl rfl ?_
   simp [binV, binE, k21]
  refine To.seq (To.reg ?_)
  refine To.r (Rd.eql rfl rfl rfl) ?_
  refine To.a (To.nil (To.thenN ?_))
  refine To.condP rfl (fun k26 => ?_) (fun k26 => ?_)
  ·
   refine To.seq (To.reg (To.m ?_))
   refine To.m ?_
   refine To.r (Rd.subW rfl rfl rfl) ?_
   refine To.a ?_
   refine To.a (To.nil (To.thenN (To.ret (To.blockR (To.thenR ?_)))))
   refine To.end2 (.inl rfl) Tryz.results70 rfl rfl ?_
   simp [binV, binE, k26]
  refine To.seq (To.reg ?_)
  refine To.r (Rd.eql rfl rfl rfl) ?_
  refine To.a (To.nil (To.thenN ?_))
  refine To.condP rfl (fun k31 => ?_) (fun k31 => ?_)
  ·
   refine To.seq (To.reg (To.m ?_))
   refine To.m ?_
   refine To.r (Rd.eql rfl rfl rfl) ?_
   refine To.callV rfl rfl rfl (Ent.fn rfl rfl ca84) (etru_fn (decide (a = b))) rfl (oks_nil _) ?_
   refine To.a ?_
   refine To.a (To.nil (To.thenN (To.ret (To.blockR (To.thenR ?_)))))
   refine To.end2 (.inl rfl) Tryz.results70 rfl rfl ?_
   simp [binV, binE, k31]
  refine To.seq (To.reg ?_)
  refine To.r (Rd.eql rfl rfl rfl) ?_
  refine To.a (To.nil (To.thenN ?_))
  refine To.condP rfl (fun k37 => ?_) (fun k37 => ?_)
  ·
   refine To.seq (To.reg (To.m ?_))
   refine To.m ?_
   refine To.r (Rd.neq rfl rfl rfl) ?_
   refine To.callV rfl rfl rfl (Ent.fn rfl rfl ca84) (etru_fn (decide (a ≠ b))) rfl (oks_nil _) ?_
   refine To.a ?_
   refine To.a (To.nil (To.thenN (To.ret (To.blockR (To.thenR ?_)))))
   refine To.end2 (.inl rfl) Tryz.results70 rfl rfl ?_
   simp [binV, binE, k37]
  refine To.seq (To.reg ?_)
  refine To.r (Rd.eql rfl rfl rfl) ?_
  refine To.a (To.nil (To.thenN ?_))
  refine To.condP rfl (fun k43 => ?_) (fun k43 => ?_)
  ·
   refine To.seq (To.reg (To.m ?_))
   refine To.m ?_
   refine To.r (Rd.lss rfl rfl rfl) ?_
   refine To.callV rfl rfl rfl (Ent.fn rfl rfl ca84) (etru_fn (decide (a < b))) rfl (oks_nil _) ?_
   refine To.a ?_
   refine To.a (To.nil (To.thenN (To.ret (To.blockR (To.thenR ?_)))))
   refine To.end2 (.inl rfl) Tryz.results70 rfl rfl ?_
   simp [binV, binE, k43]
  refine To.seq (To.reg ?_)
  refine To.r (Rd.eql rfl rfl rfl) ?_
  refine To.a (To.nil (To.thenN ?_))
  refine To.condP rfl (fun k49 => ?_) (fun k49 => ?_)
  ·
   refine To.seq (To.reg (To.m ?_))
   refine To.m ?_
   refine To.r (Rd.leq rfl rfl rfl) ?_
   refine To.callV rfl rfl rfl (Ent.fn rfl rfl ca84) (etru_fn (decide (a ≤ b))) rfl (oks_nil _) ?_
   refine To.a ?_
   refine To.a (To.nil (To.thenN (To.ret (To.blockR (To.thenR ?_)))))
   refine To.end2 (.inl rfl) Tryz.results70 rfl rfl ?_
   simp [binV, binE, k49]
  refine To.seq (To.reg ?_)
  refine To.r (Rd.eql rfl rfl rfl) ?_
  refine To.a (To.nil (To.thenN ?_))
  refine To.condP rfl (fun k55 => ?_) (fun k55 => ?_)
  ·
   refine To.seq (To.reg (To.m ?_))
   refine To.m ?_
   refine To.r (Rd.gtr rfl rfl rfl) ?_
   refine To.callV rfl rfl rfl (Ent.fn rfl rfl ca84) (etru_fn (decide (b < a))) rfl (oks_nil _) ?_
   refine To.a ?_
   refine To.a (To.nil (To.thenN (To.ret (To.blockR (To.thenR ?_)))))
   refine To.end2 (.inl rfl) Tryz.results70 rfl rfl ?_
   simp [binV, binE, k55]
  refine To.seq (To.reg ?_)
  refine To.r (Rd.eql rfl rfl rfl) ?_
  refine To.a (To.nil (To.thenN ?_))
  refine To.condP rfl (fun k61 => ?_) (fun k61 => ?_)
  ·
   refine To.seq (To.reg (To.m ?_))
   refine To.m ?_
   refine To.r (Rd.geq rfl rfl rfl) ?_
   refine To.callV rfl rfl rfl (Ent.fn rfl rfl ca84) (etru_fn (decide (b ≤ a))) rfl (oks_nil _) ?_
   refine To.a ?_
   refine To.a (To.nil (To.thenN (To.ret (To.blockR (To.thenR ?_)))))
   refine To.end2 (.inl rfl) Tryz.results70 rfl rfl ?_
   simp [binV, binE, k61]
  refine To.seq (To.reg ?_)
  refine To.r (Rd.eql rfl rfl rfl) ?_
  refine To.a (To.nil (To.thenN ?_))
  refine To.condP rfl (fun k67 => ?_) (fun k67 => ?_)
  ·
   refine To.seq (To.reg (To.m ?_))
   refine To.r (Rd.neq rfl rfl rfl) ?_
   refine To.rdP rfl rfl rfl (Rd.move rfl rfl) (fun g71 => ?_) (fun g71 => ?_)
   ·
    refine To.m ?_
    refine To.r (Rd.neq rfl rfl rfl) ?_
    refine To.r (Rd.pickT rfl rfl rfl) ?_
    refine To.callV rfl rfl rfl (Ent.fn rfl rfl ca84) (etru_fn (decide (b ≠ 0))) rfl (oks_nil _) ?_
    refine To.a ?_
    refine To.a (To.nil (To.thenN (To.ret (To.blockR (To.thenR ?_)))))
    refine To.end2 (.inl rfl) Tryz.results70 rfl rfl ?_
    simp [binV, binE, k67, g71]
   refine To.k ?_
   refine To.k ?_
   refine To.r (Rd.pickF rfl rfl rfl) ?_
   refine To.callV rfl rfl rfl (Ent.fn rfl rfl ca84) (etru_fn false) rfl (oks_nil _) ?_
   refine To.a ?_
   refine To.a (To.nil (To.thenN (To.ret (To.blockR (To.thenR ?_)))))
   refine To.end2 (.inl rfl) Tryz.results70 rfl rfl ?_
   simp [binV, binE, k67, g71]
  refine To.seq (To.reg ?_)
  refine To.r (Rd.eql rfl rfl rfl) ?_
  refine To.a (To.nil (To.thenN ?_))
  refine To.condP rfl (fun k76 => ?_) (fun k76 => ?_)
  ·
   refine To.seq (To.reg (To.m ?_))
   refine To.r (Rd.neq rfl rfl rfl) ?_
   refine To.rdP rfl rfl rfl (Rd.move rfl rfl) (fun g80 => ?_) (fun g80 => ?_)
   ·
    refine To.k ?_
    refine To.k ?_
    refine To.r (Rd.pickT rfl rfl rfl) ?_
    refine To.callV rfl rfl rfl (Ent.fn rfl rfl ca84) (etru_fn true) rfl (oks_nil _) ?_
    refine To.a ?_
    refine To.a (To.nil (To.thenN (To.ret (To.blockR (To.thenR ?_)))))
    refine To.end2 (.inl rfl) Tryz.results70 rfl rfl ?_
    simp [binV, binE, k76, g80]
   refine To.m ?_
   refine To.r (Rd.neq rfl rfl rfl) ?_
   refine To.r (Rd.pickF rfl rfl rfl) ?_
   refine To.callV rfl rfl rfl (Ent.fn rfl rfl ca84) (etru_fn (decide (b ≠ 0))) rfl (oks_nil _) ?_
   refine To.a ?_
   refine To.a (To.nil (To.thenN (To.ret (To.blockR (To.thenR ?_)))))
   refine To.end2 (.inl rfl) Tryz.results70 rfl rfl ?_
   simp [binV, binE, k76, g80]
  refine To.skip (To.blockN (To.thenN (To.seq (To.reg (To.a ?_)))))
  refine To.a (To.nil (To.thenN (To.ret ?_)))
  refine To.end2 (.inl rfl) Tryz.results70 rfl rfl ?_
  simp [binV, binE, k9, k14, k14_2, k21, k26, k31, k37, k43, k49, k55, k61, k67, k76]
def tgt (i : Ins) : Option Int := if (i.op : Int) = 27 ∨ (i.op : Int) = 28 then some i.a else if (i.op : Int) = 32 ∨ (i.op : Int) = 33 then some i.b else none
set_option maxHeartbeats 2000000 in
set_option maxRecDepth 100000 in
theorem tgt_fn (x : Ins) :
    Does Tryz.prog 36 [.agg (Ins.cells x).toArray] [] (fun v _ => v = .tuple #[.int .i64 ((tgt x).getD 0), .bool (tgt x).isSome]) := by
  refine Does.enter Tryz.func36 rfl Tryz.ntmps36 rfl (fun w0 => ?_)
  refine To.seq (To.reg ?_)
  refine To.boxed rfl rfl rfl rfl rfl rfl (fun b1 => ?_)
  refine To.a ?_
  refine To.a (To.nil (To.thenN (To.seq (To.seq (To.reg ?_)))))
  refine To.f fl36_0 ?_
  refine To.lo 0 c34 ?_
  refine To.nil (To.thenN (To.block (To.seq (To.seq (To.reg ?_)))))
  refine To.r (Rd.eql rfl rfl rfl) ?_
  refine To.a (To.nil (To.thenN ?_))
  refine To.condP rfl (fun k6 => ?_) (fun k6 => ?_)
  ·
   refine To.skip (To.thenN ?_)
   refine To.condT (congrArg (fun b => some (Value.bool b)) (decide_eq_true k6)) ?_
   refine To.seq (To.reg ?_)
   refine To.f fl36_1 ?_
   refine To.lo 0 c3 ?_
   refine To.a ?_
   refine To.a (To.nil (To.thenN (To.ret (To.blockR (To.thenR ?_)))))
   refine To.end2 (.inl rfl) Tryz.results36 rfl rfl ?_
   simp [tgt, k6]
  refine To.reg ?_
  refine To.r (Rd.eql rfl rfl rfl) ?_
  refine To.a (To.nil (To.thenN ?_))
  refine To.condP rfl (fun k6_2 => ?_) (fun k6_2 => ?_)
  ·
   refine To.seq (To.reg ?_)
   refine To.f fl36_1 ?_
   refine To.lo 0 c3 ?_
   refine To.a ?_
   refine To.a (To.nil (To.thenN (To.ret (To.blockR (To.thenR ?_)))))
   refine To.end2 (.inl rfl) Tryz.results36 rfl rfl ?_
   simp [tgt, k6_2]
  refine To.seq (To.seq (To.reg ?_))
  refine To.r (Rd.eql rfl rfl rfl) ?_
  refine To.a (To.nil (To.thenN ?_))
  refine To.condP rfl (fun k11 => ?_) (fun k11 => ?_)
  ·
   refine To.skip (To.thenN ?_)
   refine To.condT (congrArg (fun b => some (Value.bool b)) (decide_eq_true k11)) ?_
   refine To.seq (To.reg ?_)
   refine To.f fl36_2 ?_
   refine To.lo 0 c3 ?_
   refine To.a ?_
   refine To.a (To.nil (To.thenN (To.ret (To.blockR (To.thenR ?_)))))
   refine To.end2 (.inl rfl) Tryz.results36 rfl rfl ?_
   simp [tgt, k11]
  refine To.reg ?_
  refine To.r (Rd.eql rfl rfl rfl) ?_
  refine To.a (To.nil (To.thenN ?_))
  refine To.condP rfl (fun k11_2 => ?_) (fun k11_2 => ?_)
  ·
   refine To.seq (To.reg ?_)
   refine To.f fl36_2 ?_
   refine To.lo 0 c3 ?_
   refine To.a ?_
   refine To.a (To.nil (To.thenN (To.ret (To.blockR (To.thenR ?_)))))
   refine To.end2 (.inl rfl) Tryz.results36 rfl rfl ?_
   simp [tgt, k11_2]
  refine To.skip (To.blockN (To.thenN (To.seq (To.reg (To.a ?_)))))
  refine To.a (To.nil (To.thenN (To.ret ?_)))
  refine To.end2 (.inl rfl) Tryz.results36 rfl rfl ?_
  simp [tgt, k6, k6_2, k11, k11_2]
end Go.Proofs.YtoehnbacbobhiaaGreatDoor

/- Numbers with a sign; the reader. Own text (walks printed by sx.py). -/
import Derived.Test.YtfkmjkooemjekaaGreatDoorL1
import Derived.Test.YtfkmjkooemjekaaGreatDoorD1
set_option linter.unusedVariables false
set_option linter.unusedSimpArgs false
namespace Go.Proofs.YtfkmjkooemjekaaGreatDoor
open Go.RowKit Go.Flow Go.Mem Go.Sep
theorem ofIntM : BitVec.ofInt 64 (-1) = BitVec.allOnes 64 := by decide
section
variable {P : Program} {o : Oper} {ρ : Slots} {Γ : List Chunk} {x y : Operand} {t t' : TypeId} {a b j : Nat}
theorem Rd.notN (ho : o.op = .unOp .xor t x) (hx : ev ρ x = some (.int .i64 (a : Int))) (h : a < 9223372036854775808) : Rd P o ρ Γ (.int .i64 (-(a : Int) - 1)) := fun ac w ha _ => by
  have e : (BitVec.ofInt 64 (-1) ^^^ BitVec.ofInt 64 (a : Int)).toNat = 18446744073709551615 - a := by
    rw [ofIntM, BitVec.xor_comm, BitVec.xor_allOnes, BitVec.toNat_not, show (BitVec.ofInt 64 (a : Int)).toNat = a from toNat_ofInt64 h]
  have e2 : IntKind.i64.wrap ((18446744073709551615 - a : Nat) : Int) = -(a : Int) - 1 := by rw [IntKind.wrap_i64]; omega
  unfold execOp
  have e3 : IntKind.i64.bits = 64 := rfl
  have e4 := e
  simp at e4
  simp [ho, ha.eval hx, Op.unary, Op.intBits, IntKind.signed, e3, e4, e2]
theorem Rd.andU1 (ho : o.op = .binOp .and t x y t') (hx : ev ρ x = some (.int .u64 (a : Int))) (hy : ev ρ y = some (.int .u64 1)) (ha : a < 18446744073709551616) : Rd P o ρ Γ (.int .u64 ((a % 2 : Nat) : Int)) := Rd.bin ho hx hy fun w => by
  have h : a &&& 1 < 18446744073709551616 := Nat.lt_of_le_of_lt Nat.and_le_left ha
  have h1 : (BitVec.ofInt IntKind.u64.bits 1).toNat = 1 := ofIntU (a := 1) (by decide)
  simp only [eqGuard, binOp, Op.intBits, BitVec.toNat_and, ofIntU ha, h1, wrapU h]
  simp [Nat.and_one_is_mod]
end
def zzV (u : Nat) : Int := if u % 2 = 1 then -((u / 2 : Nat) : Int) - 1 else ((u / 2 : Nat) : Int)
set_option maxHeartbeats 2000000 in
set_option maxRecDepth 100000 in
theorem nzz_fn (u : Nat) (hu : u < 18446744073709551616) :
    Does Tryz.prog 79 [.int .u64 ((u : Nat) : Int)] [] (fun r _ => r = .int .i64 (zzV u)) := by
  refine Does.enter Tryz.func79 rfl Tryz.ntmps79 rfl (fun w0 => ?_)
  refine To.seq (To.reg (To.a (To.nil (To.thenN (To.seq (To.seq (To.reg ?_)))))))
  refine To.m ?_
  refine To.r (Rd.andU1 (a := u) rfl rfl rfl hu) ?_
  refine To.r (Rd.eql rfl rfl rfl) ?_
  refine To.nil (To.thenN ?_)
  refine To.condP rfl (fun c5 => ?_) (fun c5 => ?_)
  ·
   refine To.seq (To.reg (To.m ?_))
   refine To.r (Rd.shrK (a := u) (j := 1) rfl rfl rfl (by simp only [IntKind.bits]; omega)) ?_
   refine To.r (Rd.conv rfl rfl Tryz.underlying72 Tryz.underlying2 (IntWalk.i64_in _ (by omega))) ?_
   refine To.r (Rd.notN (a := u / 2 ^ 1) rfl rfl (by omega)) ?_
   refine To.a (To.nil (To.thenN (To.ret (To.thenR ?_))))
   refine To.end1 (.inl rfl) Tryz.results79 rfl ?_
   unfold zzV; rw [if_pos (by omega), Nat.pow_one]
  refine To.skip (To.thenN (To.seq (To.reg (To.m ?_))))
  refine To.r (Rd.shrK (a := u) (j := 1) rfl rfl rfl (by simp only [IntKind.bits]; omega)) ?_
  refine To.r (Rd.conv rfl rfl Tryz.underlying72 Tryz.underlying2 (IntWalk.i64_in _ (by omega))) ?_
  refine To.a (To.nil (To.thenN (To.ret ?_)))
  refine To.end1 (.inl rfl) Tryz.results79 rfl ?_
  unfold zzV; rw [if_neg (by omega), Nat.pow_one]
set_option maxHeartbeats 2000000 in
set_option maxRecDepth 100000 in
theorem rzz_fn (u : Nat) (hu : u < 18446744073709551616) :
    Does Tryz.prog 29 [.int .u64 ((u : Nat) : Int)] [] (fun r _ => r = .int .i64 (zzV u)) := by
  refine Does.enter Tryz.func29 rfl Tryz.ntmps29 rfl (fun w0 => ?_)
  refine To.seq (To.reg (To.a (To.nil (To.thenN (To.seq (To.seq (To.reg ?_)))))))
  refine To.m ?_
  refine To.r (Rd.remN (a := u) (b := 2) rfl rfl rfl (by omega)) ?_
  refine To.r (Rd.eql rfl rfl rfl) ?_
  refine To.nil (To.thenN ?_)
  refine To.condP rfl (fun c5 => ?_) (fun c5 => ?_)
  ·
   refine To.seq (To.reg (To.m ?_))
   refine To.r (Rd.quoU (a := u) (b := 2) rfl rfl rfl (by omega) (by omega)) ?_
   refine To.r (Rd.conv rfl rfl Tryz.underlying72 Tryz.underlying2 (IntWalk.i64_in _ (by omega))) ?_
   refine To.r (Rd.as (v' := .int .i64 (-((u / 2 : Nat) : Int))) (congrArg (Value.int .i64) (IntWalk.i64_in _ (by omega))) (Rd.negW rfl rfl)) ?_
   refine To.r (Rd.sub64 rfl rfl rfl (by omega)) ?_
   refine To.a (To.nil (To.thenN (To.ret (To.thenR ?_))))
   refine To.end1 (.inl rfl) Tryz.results29 rfl ?_
   unfold zzV; rw [if_pos (by omega)]
  refine To.skip (To.thenN (To.seq (To.reg (To.m ?_))))
  refine To.r (Rd.quoU (a := u) (b := 2) rfl rfl rfl (by omega) (by omega)) ?_
  refine To.r (Rd.conv rfl rfl Tryz.underlying72 Tryz.underlying2 (IntWalk.i64_in _ (by omega))) ?_
  refine To.a (To.nil (To.thenN (To.ret ?_)))
  refine To.end1 (.inl rfl) Tryz.results29 rfl ?_
  unfold zzV; rw [if_neg (by omega)]
end Go.Proofs.YtfkmjkooemjekaaGreatDoor

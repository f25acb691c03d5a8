/- Sets as numbers: shifts and bits; slices that are made full. Own text. -/
import Derived.Test.YtoehnbacbobhiaaDoorSeps
namespace Go.Sep
open Go.RowKit Go.Flow Go.Mem
section
variable {P : Program} {o : Oper} {ρ : Slots} {Γ : List Chunk} {x y : Operand} {a b : Nat} {t t' : TypeId}
theorem wrap_nat64 {n : Nat} (h : n < 9223372036854775808) : IntKind.i64.wrap (n : Int) = n := IntWalk.i64_in _ (by omega)
theorem toNat_ofInt64 {n : Nat} (h : n < 9223372036854775808) : (BitVec.ofInt IntKind.i64.bits (n : Int)).toNat = n := by
  show (BitVec.ofInt 64 (n : Int)).toNat = n
  rw [BitVec.toNat_ofInt]
  omega
theorem Rd.and64 (ho : o.op = .binOp .and t x y t') (hx : ev ρ x = some (.int .i64 (a : Int))) (hy : ev ρ y = some (.int .i64 (b : Int))) (ha : a < 9223372036854775808) (hb : b < 9223372036854775808) : Rd P o ρ Γ (.int .i64 ((a &&& b : Nat) : Int)) := Rd.bin ho hx hy fun w => by
  have h : a &&& b < 9223372036854775808 := Nat.lt_of_le_of_lt Nat.and_le_left ha
  simp only [eqGuard, binOp, Op.intBits, BitVec.toNat_and, toNat_ofInt64 ha, toNat_ofInt64 hb, wrap_nat64 h]
  simp
theorem Rd.or64 (ho : o.op = .binOp .or t x y t') (hx : ev ρ x = some (.int .i64 (a : Int))) (hy : ev ρ y = some (.int .i64 (b : Int))) (ha : a < 9223372036854775808) (hb : b < 9223372036854775808) : Rd P o ρ Γ (.int .i64 ((a ||| b : Nat) : Int)) := Rd.bin ho hx hy fun w => by
  have h : a ||| b < 9223372036854775808 := Nat.or_lt_two_pow (n := 63) ha hb
  simp only [eqGuard, binOp, Op.intBits, BitVec.toNat_or, toNat_ofInt64 ha, toNat_ofInt64 hb, wrap_nat64 h]
  simp
theorem Rd.andNot64 (ho : o.op = .binOp .andNot t x y t') (hx : ev ρ x = some (.int .i64 (a : Int))) (hy : ev ρ y = some (.int .i64 (b : Int))) (ha : a < 9223372036854775808) (hb : b < 9223372036854775808) : Rd P o ρ Γ (.int .i64 ((a &&& (18446744073709551615 - b) : Nat) : Int)) := Rd.bin ho hx hy fun w => by
  have h : a &&& (18446744073709551615 - b) < 9223372036854775808 := Nat.lt_of_le_of_lt Nat.and_le_left ha
  have e : (~~~ (BitVec.ofInt IntKind.i64.bits (b : Int))).toNat = 18446744073709551615 - b := by
    rw [BitVec.toNat_not, toNat_ofInt64 hb]; rfl
  simp only [eqGuard, binOp, Op.intBits, BitVec.toNat_and, toNat_ofInt64 ha, e, wrap_nat64 h]
  simp
theorem Rd.shl1 {j : Nat} (ho : o.op = .binOp .shl t x y t') (hx : ev ρ x = some (.int .i64 1)) (hy : ev ρ y = some (.int .i64 (j : Int))) (hj : j < 63) : Rd P o ρ Γ (.int .i64 ((2 ^ j : Nat) : Int)) := Rd.bin ho hx hy fun w => by
  have h : (2 : Nat) ^ j < 9223372036854775808 := Nat.pow_lt_pow_right (by decide) hj
  have h1 : ¬ ((j : Int) < 0) := by omega
  have h2 : Min.min j IntKind.i64.bits = j := Nat.min_eq_left (by show j ≤ 64; omega)
  have e : (1 : Int) * 2 ^ j = ((2 ^ j : Nat) : Int) := by rw [Int.one_mul]; simp
  simp only [eqGuard, binOp, Op.shift, h1, if_false, Int.toNat_natCast, h2, e, wrap_nat64 h]
  simp
theorem Rd.shr64 {j : Nat} (ho : o.op = .binOp .shr t x y t') (hx : ev ρ x = some (.int .i64 (a : Int))) (hy : ev ρ y = some (.int .i64 (j : Int))) (hj : j < 63) : Rd P o ρ Γ (.int .i64 ((a / 2 ^ j : Nat) : Int)) := Rd.bin ho hx hy fun w => by
  have h1 : ¬ ((j : Int) < 0) := by omega
  have h2 : Min.min j IntKind.i64.bits = j := Nat.min_eq_left (by show j ≤ 64; omega)
  have e : (a : Int).fdiv (2 ^ j) = ((a / 2 ^ j : Nat) : Int) := by
    rw [Int.fdiv_eq_ediv_of_nonneg _ (by exact_mod_cast Nat.zero_le _)]; simp
  simp only [eqGuard, binOp, Op.shift, h1, if_false, Int.toNat_natCast, h2, e]
  simp
theorem Rd.remN {k : IntKind} (ho : o.op = .binOp .rem t x y t') (hx : ev ρ x = some (.int k (a : Int))) (hy : ev ρ y = some (.int k (b : Int))) (hb : 0 < b) : Rd P o ρ Γ (.int k ((a % b : Nat) : Int)) := by
  have := Rd.rem (P := P) (Γ := Γ) ho hx hy (by omega) (by omega)
  rwa [← Int.natCast_emod] at this
theorem Rd.addU (ho : o.op = .binOp .add t x y t') (hx : ev ρ x = some (.int .u64 (a : Int))) (hy : ev ρ y = some (.int .u64 (b : Int))) : Rd P o ρ Γ (.int .u64 (((a + b) % 18446744073709551616 : Nat) : Int)) := Rd.bin ho hx hy fun w => by
  have e : IntKind.u64.wrap ((a : Int) + b) = (((a + b) % 18446744073709551616 : Nat) : Int) := by
    simp [IntKind.wrap, IntKind.bits, IntKind.signed]
  simp [eqGuard, binOp, Op.intArith, e]
/-- A sum of counts. -/
theorem Rd.addN (ho : o.op = .binOp .add t x y t') (hx : ev ρ x = some (.int .i64 (a : Int))) (hy : ev ρ y = some (.int .i64 (b : Int))) (h : a + b < 9223372036854775808) : Rd P o ρ Γ (.int .i64 ((a + b : Nat) : Int)) := by
  have := Rd.add64 (P := P) (Γ := Γ) ho hx hy (by omega)
  rwa [← Int.natCast_add] at this
theorem wrapU {n : Nat} (h : n < 18446744073709551616) : IntKind.u64.wrap (n : Int) = n := by simp [IntKind.wrap, IntKind.bits, IntKind.signed]; omega
theorem Rd.mulU (ho : o.op = .binOp .mul t x y t') (hx : ev ρ x = some (.int .u64 (a : Int))) (hy : ev ρ y = some (.int .u64 (b : Int))) (h : a * b < 18446744073709551616) : Rd P o ρ Γ (.int .u64 ((a * b : Nat) : Int)) := by
  have := Rd.mul (P := P) (Γ := Γ) ho hx hy (by rw [← Int.natCast_mul]; exact wrapU h)
  rwa [← Int.natCast_mul] at this
theorem Rd.quoU (ho : o.op = .binOp .quo t x y t') (hx : ev ρ x = some (.int .u64 (a : Int))) (hy : ev ρ y = some (.int .u64 (b : Int))) (h0 : 0 < b) (h : a < 18446744073709551616) : Rd P o ρ Γ (.int .u64 ((a / b : Nat) : Int)) := Rd.bin ho hx hy fun w => by
  have h3 : a / b ≤ a := Nat.div_le_self _ _
  have h4 : b ≠ 0 := by omega
  have e2 : IntKind.u64.wrap ((a : Int) / b) = (a : Int) / b := by rw [← Int.natCast_ediv]; exact wrapU (by omega)
  simp [eqGuard, binOp, Op.intDiv, h4, e2]
/-- An element of an array. -/
theorem Rd.indexV {t e : TypeId} {n j : Nat} {k k' : IntKind} {xs : List Value} {v : Value} {i : TypeInfo} (ho : o.op = .index t x y) (ht : P.underlying t = some (.array n e)) (he : P.underlying e = some (.int k')) (hi : P.info? e = some i) (h1 : i.size = 1) (hx : ev ρ x = some (.agg xs.toArray)) (hy : ev ρ y = some (.int k (j : Int))) (hj : j < n) (hv : xs[j]? = some v) : Rd P o ρ Γ v := fun a w ha _ => by
  unfold execOp
  simp [ho, ha.eval hx, ha.eval hy, Instr.index, asIntOf, run_underlying ht, sizeOf, typeInfo, hi, h1, part, isAgg, run_underlying he, hv]
  omega
/-- A slice of zeros. -/
theorem Mk.makeRows {α : Type} {enc : α → List Value} {z : α} {e : TypeId} {bytes n : Nat} {kl kc : IntKind} (hz : (enc z).length = 1) (ho : o.op = .makeSlice t x y) (ht : SliceTy P t e 1 bytes (enc z)) (hx : ev ρ x = some (.int kl (n : Int))) (hy : ev ρ y = some (.int kc (n : Int))) (hb : bytes * n ≤ 281474976710656) (hc : n ≤ maxLen) :
    Mk P o ρ Γ (fun v N => ∃ b, v = .slice (some ⟨b, 0, none⟩) (List.replicate n z).length n ∧ N = [rows enc e 1 (some ⟨b, 0, none⟩) n (List.replicate n z)]) := by
  have h := Mk.makeN (P := P) (Γ := Γ) ho ht hx hy hb hc
  intro a w ha hs
  obtain ⟨v, N, w', h1, ⟨b, h2, h3⟩, h4⟩ := h a w ha hs
  refine ⟨v, N, w', h1, ⟨b, by rw [h2, List.length_replicate], ?_⟩, h4⟩
  rw [h3, madeCells_list _ n hz]
  unfold rows
  rw [List.length_replicate]
  rw [List.flatMap_def, List.map_replicate]
end
end Go.Sep

/- A number read: seven bits to a byte. Own text (walks printed by sx.py). -/
import Derived.Test.YtllalpnmagpkfaaGreatDoorC9
import Derived.Test.YtllalpnmagpkfaaGreatDoorL3
set_option linter.unusedVariables false
set_option linter.unusedSimpArgs false
set_option maxHeartbeats 2000000
set_option maxRecDepth 100000
namespace Go.Proofs.YtllalpnmagpkfaaGreatDoor
open Go.RowKit Go.Flow Go.Mem Go.Sep
def encY (n : Nat) : List Value := [.int .u8 ((n : Nat) : Int)]
theorem encY_ok : Enc encY 1 := ⟨fun _ => rfl, fun x u hu => by simp [encY] at hu; subst hu; rfl⟩
theorem ofIntU {a : Nat} (h : a < 18446744073709551616) : (BitVec.ofInt IntKind.u64.bits (a : Int)).toNat = a := by
 show (BitVec.ofInt 64 (a : Int)).toNat = a
 rw [BitVec.ofInt_natCast, BitVec.toNat_ofNat]
 exact Nat.mod_eq_of_lt h
section
variable {P : Program} {o : Oper} {ρ : Slots} {Γ : List Chunk} {x y : Operand} {t t' : TypeId} {a b j : Nat}
theorem Rd.mulN (ho : o.op = .binOp .mul t x y t') (hx : ev ρ x = some (.int .i64 (a : Int))) (hy : ev ρ y = some (.int .i64 (b : Int))) (h : a * b < 9223372036854775808) : Rd P o ρ Γ (nv (a * b)) := Rd.bin ho hx hy fun w => by
 have e : IntKind.i64.wrap ((a : Int) * (b : Int)) = ((a * b : Nat) : Int) := by rw [← Int.natCast_mul]; exact IntWalk.i64_in _ (by omega)
 simp [eqGuard, binOp, Op.intArith, e]
theorem Rd.shlU (ho : o.op = .binOp .shl t x y t') (hx : ev ρ x = some (.int .u64 (a : Int))) (hy : ev ρ y = some (.int .i64 (j : Int))) (hj : j < 64) (h : a * 2 ^ j < 18446744073709551616) : Rd P o ρ Γ (.int .u64 ((a * 2 ^ j : Nat) : Int)) := Rd.bin ho hx hy fun w => by
 have h1 : ¬ ((j : Int) < 0) := by omega
 have h2 : Min.min j IntKind.u64.bits = j := Nat.min_eq_left (by show j ≤ 64; omega)
 have e : (a : Int) * 2 ^ j = ((a * 2 ^ j : Nat) : Int) := by simp
 simp only [eqGuard, binOp, Op.shift, h1, if_false, Int.toNat_natCast, h2, e, wrapU h]
 simp
theorem Rd.orU (ho : o.op = .binOp .or t x y t') (hx : ev ρ x = some (.int .u64 (a : Int))) (hy : ev ρ y = some (.int .u64 (b : Int))) (ha : a < 18446744073709551616) (hb : b < 18446744073709551616) : Rd P o ρ Γ (.int .u64 ((a ||| b : Nat) : Int)) := Rd.bin ho hx hy fun w => by
 have h : a ||| b < 18446744073709551616 := Nat.or_lt_two_pow (n := 64) ha hb
 simp only [eqGuard, binOp, Op.intBits, BitVec.toNat_or, ofIntU ha, ofIntU hb, wrapU h]
 simp
end
def uGo : Nat → Nat → List Nat → Option (Nat × Nat)
 | _, _, [] => none
 | i, v, b :: r => if (i = 9 ∧ 1 < b) ∨ (0 < i ∧ b = 0) then none else if b < 128 then some (v + b % 128 * 2 ^ (7 * i), i + 1) else uGo (i + 1) (v + b % 128 * 2 ^ (7 * i)) r
def uintV (p : List Nat) : Option (Nat × Nat) := uGo 0 0 p
def uV (o : Option (Nat × Nat)) : Nat := (o.getD (0, 0)).1
def uL (o : Option (Nat × Nat)) : Nat := (o.getD (0, 0)).2
def uE (o : Option (Nat × Nat)) : Int := if o.isSome then 0 else 6
theorem uGo_none {p : List Nat} {i v y : Nat} (hy : p[i]? = some y) (h : (i = 9 ∧ 1 < y) ∨ (0 < i ∧ y = 0)) : uGo i v (p.drop i) = none := by rw [dog hy, uGo, if_pos h]
theorem uGo_some {p : List Nat} {i v y : Nat} (hy : p[i]? = some y) (h : ¬ ((i = 9 ∧ 1 < y) ∨ (0 < i ∧ y = 0))) (hb : y < 128) : uGo i v (p.drop i) = some (v + y % 128 * 2 ^ (7 * i), i + 1) := by rw [dog hy, uGo, if_neg h, if_pos hb]
theorem uGo_next {p : List Nat} {i v y : Nat} (hy : p[i]? = some y) (h : ¬ ((i = 9 ∧ 1 < y) ∨ (0 < i ∧ y = 0))) (hb : ¬ y < 128) : uGo i v (p.drop i) = uGo (i + 1) (v + y % 128 * 2 ^ (7 * i)) (p.drop (i + 1)) := by rw [dog hy, uGo, if_neg h, if_neg hb]
theorem uGo_end {p : List Nat} {i v : Nat} (h : p.length ≤ i) : uGo i v (p.drop i) = none := by rw [List.drop_eq_nil_of_le h, uGo]
theorem uBnd {i y : Nat} (hi : i ≤ 9) (h : i = 9 → y ≤ 1) : y % 128 * 2 ^ (7 * i) < 18446744073709551616 := by
 rcases (by omega : i = 9 ∨ i ≤ 8) with rfl | h8
 · have := h rfl
   have : y % 128 ≤ 1 := by omega
   calc y % 128 * 2 ^ (7 * 9) ≤ 1 * 2 ^ (7 * 9) := Nat.mul_le_mul_right _ this
    _ < _ := by decide
 · have h1 : y % 128 ≤ 127 := by omega
   have h2 : 2 ^ (7 * i) ≤ 2 ^ 56 := Nat.pow_le_pow_right (by decide) (by omega)
   calc y % 128 * 2 ^ (7 * i) ≤ 127 * 2 ^ 56 := Nat.mul_le_mul h1 h2
    _ < _ := by decide
theorem uLow {i v : Nat} (hi : i ≤ 9) (hv : v < 2 ^ (7 * i)) : v < 9223372036854775808 := Nat.lt_of_lt_of_le hv (by
 calc 2 ^ (7 * i) ≤ 2 ^ 63 := Nat.pow_le_pow_right (by decide) (by omega)
  _ = _ := by decide)
theorem uSum {i v y : Nat} (hv : v < 2 ^ (7 * i)) : v + y % 128 * 2 ^ (7 * i) < 2 ^ (7 * (i + 1)) := by
 have e : 2 ^ (7 * (i + 1)) = 128 * 2 ^ (7 * i) := by rw [Nat.mul_add, Nat.pow_add, Nat.mul_comm]
 have h1 : y % 128 * 2 ^ (7 * i) ≤ 127 * 2 ^ (7 * i) := Nat.mul_le_mul_right _ (by omega)
 rw [e]; omega
theorem uTop {i v y : Nat} (hi : i ≤ 9) (h : i = 9 → y ≤ 1) (hv : v < 2 ^ (7 * i)) : v + y % 128 * 2 ^ (7 * i) < 18446744073709551616 := by
 rcases (by omega : i = 9 ∨ i ≤ 8) with rfl | h8
 · have := h rfl
   have h2 : y % 128 * 2 ^ (7 * 9) ≤ 1 * 2 ^ (7 * 9) := Nat.mul_le_mul_right _ (by omega)
   have h3 := uLow (i := 9) (by decide) hv
   have h4 : 1 * 2 ^ (7 * 9) = 9223372036854775808 := by decide
   omega
 · refine Nat.lt_of_lt_of_le (uSum hv) ?_
   calc 2 ^ (7 * (i + 1)) ≤ 2 ^ 63 := Nat.pow_le_pow_right (by decide) (by omega)
    _ ≤ _ := by decide
theorem uOr {i v y : Nat} (hv : v < 2 ^ (7 * i)) : v ||| y % 128 * 2 ^ (7 * i) = v + y % 128 * 2 ^ (7 * i) := by
 rw [Nat.or_comm, Nat.mul_comm (y % 128), ← Nat.two_pow_add_eq_or_of_lt hv, Nat.add_comm]
theorem nuint_fn (A : Option Addr) (q : Nat) (p : List Nat) (hl : p.length ≤ 9223372036854775806) (hp : ∀ b ∈ p, b < 256) :
    Does Tryz.prog 139 [.slice A p.length q] [ros encY A p] (fun r _ => r = .tuple #[.int .u64 ((uV (uintV p) : Nat) : Int), nv (uL (uintV p)), .int .i64 (uE (uintV p))]) := by
 refine Does.enter Tryz.func139 rfl Tryz.ntmps139 rfl (fun w0 => ?_)
 refine To.s (To.g (To.a ?_))
 refine To.a ?_
 refine To.a (To.n (To.t (To.s (To.s (To.g ?_)))))
 refine To.m ?_
 refine To.r (Rd.len rfl rfl Tryz.underlying22) ?_
 refine To.m (To.n (To.t (To.b ?_)))
 refine To.only [0] rfl (To.loopS (fun mz ρ Γ => ∃ (v : Nat) (i : Nat), ρ = [(2, .int .u64 ((v : Nat) : Int)), (7, .slice A p.length q), (8, nv p.length), (9, nv i)] ∧ Γ = [ros encY A p] ∧ mz = p.length - i ∧ (i ≤ p.length) ∧ (i ≤ 9) ∧ (v < 2 ^ (7 * i)) ∧ (uintV p = uGo i v (p.drop i))) (p.length - 0) ⟨⟨0, 0, rfl, rfl, rfl, (Nat.zero_le _), (Nat.zero_le _), (by decide), rfl⟩, ⟨rfl, rfl, rfl, rfl, trivial⟩⟩ ?_)
 rintro mz _ _ ⟨v, i, rfl, rfl, rfl, hi, hi9, hv, hI⟩
 refine To.s (To.g (To.lt ?_))
 refine To.n (To.t (To.s (To.cp rfl (fun c10 => ?_) (fun c10 => ?_))))
 obtain ⟨y, hy⟩ : ∃ z0, p[i]? = some z0 := ⟨p[i]'(by omega), gge _⟩
 have hyb := hp y (mog hy)
 refine To.sp (To.t (To.s (To.b (To.s (To.g (To.m ?_))))))
 refine To.r (Rd.ixo encY_ok (i := 0) (j := i) rfl rfl rfl s22 rfl hy) ?_
 refine To.r (Rd.ld (i := 0) rfl rfl c5 rfl (gives_1 (rsg encY_ok hy) rfl)) ?_
 refine To.a ?_
 refine To.a (To.n (To.t (To.s (To.s (To.g ?_)))))
 refine To.meet (T := Bool) (fun t => ([(2, .int .u64 ((v : Nat) : Int)), (7, .slice A p.length q), (8, nv p.length), (9, nv i), (5, nv i), (6, .int .u8 ((y : Nat) : Int)), (19, .bool t)], [ros encY A p])) (fun t => t = ((decide (((i : Nat) : Int) = 9)) && decide (1 < ((y : Nat) : Int)))) ?_ (fun t ht => ?_)
 refine To.m ?_
 refine To.eq ?_
 refine To.rdP rfl rfl rfl (Rd.move rfl rfl) (fun g16 => ?_) (fun g16 => ?_)
 refine To.m ?_
 refine To.gt ?_
 refine To.pT ?_
 refine To.n (To.t (To.only [0] rfl (To.he (decide (1 < ((y : Nat) : Int))) (by first | (simp [g16]; done) | (simp [g16]; omega)) ⟨rfl, rfl, rfl, rfl, rfl, rfl, rfl, trivial⟩ rfl)))
 refine To.k ?_
 refine To.k ?_
 refine To.pF ?_
 refine To.n (To.t (To.only [0] rfl (To.he false (by first | (simp [g16]; done) | (simp [g16]; omega)) ⟨rfl, rfl, rfl, rfl, rfl, rfl, rfl, trivial⟩ rfl)))
 subst ht
 dsimp only
 refine To.cond rfl (fun c19 => ?_) (fun c19 => ?_)
 simp only [Bool.or_eq_false_iff, Bool.and_eq_false_iff, Bool.or_eq_true, Bool.and_eq_true, decide_eq_true_eq, decide_eq_false_iff_not] at c19
 refine To.s (To.g (To.a ?_))
 refine To.a ?_
 refine To.a (To.n (To.t (To.rt (To.tr (To.br (To.tr (To.tr (To.br (To.tr ?_)))))))))
 refine To.end3 (.inl rfl) Tryz.results139 rfl rfl rfl ?_
 rw [show uintV p = none from by rw [hI]; exact uGo_none hy (by omega)]; rfl
 simp only [Bool.or_eq_false_iff, Bool.and_eq_false_iff, Bool.or_eq_true, Bool.and_eq_true, decide_eq_true_eq, decide_eq_false_iff_not] at c19
 have h9y : i = 9 → y ≤ 1 := fun h9 => by omega
 refine To.sp (To.t (To.s (To.g (To.m ?_))))
 refine To.m ?_
 refine To.r (Rd.as (v' := .int .u8 ((y % 128 : Nat) : Int)) (congrArg (fun n : Nat => Value.int .u8 (n : Int)) (Nat.and_two_pow_sub_one_eq_mod y 7)) (Rd.and8 (a := y) (b := 127) rfl rfl rfl (by omega) (by omega))) ?_
 refine To.r (Rd.conv rfl rfl Tryz.underlying5 Tryz.underlying227 (wrapU (by first | omega | (simp; done) | (simp; omega)))) ?_
 refine To.m ?_
 refine To.r (Rd.mulN (a := 7) (b := i) rfl rfl rfl (by omega)) ?_
 refine To.r (Rd.shlU (a := y % 128) (j := 7 * i) rfl rfl rfl (by omega) (uBnd hi9 h9y)) ?_
 refine To.r (Rd.as (v' := .int .u64 ((v + y % 128 * 2 ^ (7 * i) : Nat) : Int)) (congrArg (fun n : Nat => Value.int .u64 (n : Int)) (uOr hv)) (Rd.orU (a := v) (b := y % 128 * 2 ^ (7 * i)) rfl rfl rfl (by have := uLow hi9 hv; omega) (uBnd hi9 h9y))) ?_
 refine To.a (To.n (To.t (To.s (To.g ?_))))
 refine To.m ?_
 refine To.r (Rd.shrK (a := y) (j := 7) rfl rfl rfl (by simp only [IntKind.bits]; omega)) ?_
 refine To.eq ?_
 refine To.n (To.t (To.cp rfl (fun c30 => ?_) (fun c30 => ?_)))
 refine To.s (To.s (To.g (To.meet (T := Bool) (fun t => ([(2, .int .u64 ((v + y % 128 * 2 ^ (7 * i) : Nat) : Int)), (5, nv i), (36, .bool t)], [ros encY A p])) (fun t => t = ((decide (((y : Nat) : Int) = 0)) && decide (0 < ((i : Nat) : Int)))) ?_ (fun t ht => ?_))))
 refine To.m ?_
 refine To.eq ?_
 refine To.rdP rfl rfl rfl (Rd.move rfl rfl) (fun g33 => ?_) (fun g33 => ?_)
 refine To.m ?_
 refine To.gt ?_
 refine To.pT ?_
 refine To.n (To.t (To.only [0] rfl (To.he (decide (0 < ((i : Nat) : Int))) (by first | (simp [g33]; done) | (simp [g33]; omega)) ⟨rfl, rfl, rfl, trivial⟩ rfl)))
 refine To.k ?_
 refine To.k ?_
 refine To.pF ?_
 refine To.n (To.t (To.only [0] rfl (To.he false (by first | (simp [g33]; done) | (simp [g33]; omega)) ⟨rfl, rfl, rfl, trivial⟩ rfl)))
 subst ht
 dsimp only
 refine To.cond rfl (fun c36 => ?_) (fun c36 => ?_)
 simp only [Bool.or_eq_false_iff, Bool.and_eq_false_iff, Bool.or_eq_true, Bool.and_eq_true, decide_eq_true_eq, decide_eq_false_iff_not] at c36
 refine To.s (To.g (To.a ?_))
 refine To.a ?_
 refine To.a (To.n (To.t (To.rt (To.tr (To.br (To.tr (To.tr (To.br (To.tr ?_)))))))))
 refine To.end3 (.inl rfl) Tryz.results139 rfl rfl rfl ?_
 rw [show uintV p = none from by rw [hI]; exact uGo_none hy (by omega)]; rfl
 simp only [Bool.or_eq_false_iff, Bool.and_eq_false_iff, Bool.or_eq_true, Bool.and_eq_true, decide_eq_true_eq, decide_eq_false_iff_not] at c36
 have hno : ¬ ((i = 9 ∧ 1 < y) ∨ (0 < i ∧ y = 0)) := by omega
 refine To.sp (To.t (To.s (To.g (To.m ?_))))
 refine To.m ?_
 refine To.r (Rd.inc rfl rfl rfl (by omega)) ?_
 refine To.a ?_
 refine To.a ?_
 refine To.a (To.n (To.t (To.rt (To.br (To.tr (To.tr (To.br (To.tr ?_))))))))
 refine To.end3 (.inl rfl) Tryz.results139 rfl rfl rfl ?_
 rw [show uintV p = some (v + y % 128 * 2 ^ (7 * i), i + 1) from by rw [hI]; exact uGo_some hy hno (by omega)]; rfl
 have hno : ¬ ((i = 9 ∧ 1 < y) ∨ (0 < i ∧ y = 0)) := by omega
 refine To.sp (To.bn (To.t (To.g (To.r (Rd.inc rfl rfl rfl (by omega)) ?_))))
 refine To.m (To.n (To.t ?_))
 refine To.only [0] rfl (To.agS (p.length - (i + 1)) (by omega) ⟨⟨v + y % 128 * 2 ^ (7 * i), i + 1, rfl, rfl, rfl, (by omega), (by omega), (uSum hv), (by rw [hI, uGo_next hy hno (by omega)])⟩, ⟨rfl, rfl, rfl, rfl, trivial⟩⟩)
 refine To.ex (To.tx (To.tx (To.bx (To.t (To.s (To.g (To.a ?_)))))))
 refine To.a ?_
 refine To.a (To.n (To.t (To.rt ?_)))
 refine To.end3 (.inl rfl) Tryz.results139 rfl rfl rfl ?_
 rw [show uintV p = none from by rw [hI]; exact uGo_end (by omega)]; rfl
end Go.Proofs.YtllalpnmagpkfaaGreatDoor

/- Own text. -/
import Derived.Test.YtllalpnmagpkfaaGreatDoorD1
import Derived.Test.YtllalpnmagpkfaaGreatDoorZ1
set_option linter.unusedVariables false
set_option linter.unusedSimpArgs false
set_option maxHeartbeats 2000000
set_option maxRecDepth 100000
namespace Go.Proofs.YtllalpnmagpkfaaGreatDoor
open Go.RowKit Go.Flow Go.Mem Go.Sep
theorem ofIntM : BitVec.ofInt 64 (-1) = BitVec.allOnes 64 := by decide
section
variable {P : Program} {o : Oper} {ρ : Slots} {Γ : List Chunk} {x y : Operand} {t t' : TypeId} {a b j : Nat}
theorem Rd.notN (ho : o.op = .unOp .xor t x) (hx : ev ρ x = some (.int .i64 (a : Int))) (h : a < 9223372036854775808) : Rd P o ρ Γ (.int .i64 (-(a : Int) - 1)) := fun ac w ha _ => by
 have e : (BitVec.ofInt 64 (-1) ^^^ BitVec.ofInt 64 (a : Int)).toNat = 18446744073709551615 - a := by
  rw [ofIntM, BitVec.xor_comm, BitVec.xor_allOnes, BitVec.toNat_not, show (BitVec.ofInt 64 (a : Int)).toNat = a from toNat_ofInt64 h]
 have e2 : IntKind.i64.wrap ((18446744073709551615 - a : Nat) : Int) = -(a : Int) - 1 := by rw [IntKind.wrap_i64]; omega
 unfold execOp
 have e3 : IntKind.i64.bits = 64 := rfl
 have e4 := e
 simp at e4
 simp [ho, ha.eval hx, Op.unary, Op.intBits, IntKind.signed, e3, e4, e2]
theorem Rd.andU1 (ho : o.op = .binOp .and t x y t') (hx : ev ρ x = some (.int .u64 (a : Int))) (hy : ev ρ y = some (.int .u64 1)) (ha : a < 18446744073709551616) : Rd P o ρ Γ (.int .u64 ((a % 2 : Nat) : Int)) := Rd.bin ho hx hy fun w => by
 have h : a &&& 1 < 18446744073709551616 := Nat.lt_of_le_of_lt Nat.and_le_left ha
 have h1 : (BitVec.ofInt IntKind.u64.bits 1).toNat = 1 := ofIntU (a := 1) (by decide)
 simp only [eqGuard, binOp, Op.intBits, BitVec.toNat_and, ofIntU ha, h1, wrapU h]
 simp [Nat.and_one_is_mod]
end
def zzV (u : Nat) : Int := if u % 2 = 1 then -((u / 2 : Nat) : Int) - 1 else ((u / 2 : Nat) : Int)
theorem nzz_fn (u : Nat) (hu : u < 18446744073709551616) :
    Does Tryz.prog 188 [.int .u64 ((u : Nat) : Int)] [] (fun r _ => r = .int .i64 (zzV u)) := by
 refine Does.enter Tryz.func188 rfl Tryz.ntmps188 rfl (fun w0 => ?_)
 refine To.s (To.g (To.a (To.n (To.t (To.s (To.s (To.g ?_)))))))
 refine To.m ?_
 refine To.r (Rd.andU1 (a := u) rfl rfl rfl hu) ?_
 refine To.eq ?_
 refine To.n (To.t (To.cp rfl (fun c5 => ?_) (fun c5 => ?_)))
 refine To.s (To.g (To.m ?_))
 refine To.r (Rd.shrK (a := u) (j := 1) rfl rfl rfl (by simp only [IntKind.bits]; omega)) ?_
 refine To.r (Rd.conv rfl rfl Tryz.underlying227 Tryz.underlying2 (IntWalk.i64_in _ (by omega))) ?_
 refine To.r (Rd.notN (a := u / 2 ^ 1) rfl rfl (by omega)) ?_
 refine To.a (To.n (To.t (To.rt (To.tr ?_))))
 refine To.end1 (.inl rfl) Tryz.results188 rfl ?_
 unfold zzV; rw [if_pos (by omega), Nat.pow_one]
 refine To.sp (To.t (To.s (To.g (To.m ?_))))
 refine To.r (Rd.shrK (a := u) (j := 1) rfl rfl rfl (by simp only [IntKind.bits]; omega)) ?_
 refine To.r (Rd.conv rfl rfl Tryz.underlying227 Tryz.underlying2 (IntWalk.i64_in _ (by omega))) ?_
 refine To.a (To.n (To.t (To.rt ?_)))
 refine To.end1 (.inl rfl) Tryz.results188 rfl ?_
 unfold zzV; rw [if_neg (by omega), Nat.pow_one]
theorem uGo_lt : ∀ (p : List Nat) (i v : Nat), i ≤ 9 → v < 2 ^ (7 * i) → ∀ a n, uGo i v p = some (a, n) → a < 18446744073709551616 ∧ n ≤ i + p.length
 | [], _, _, _, _, _, _, h => by cases h
 | b :: r, i, v, hi, hv, a, n, h => by
   rw [uGo] at h
   by_cases h1 : (i = 9 ∧ 1 < b) ∨ (0 < i ∧ b = 0)
   · rw [if_pos h1] at h; cases h
   · rw [if_neg h1] at h
     by_cases h2 : b < 128
     · rw [if_pos h2] at h
       simp only [Option.some.injEq, Prod.mk.injEq] at h
       obtain ⟨rfl, rfl⟩ := h
       exact ⟨uTop hi (fun h9 => by omega) hv, by rw [lc1]; omega⟩
     · rw [if_neg h2] at h
       have := uGo_lt r (i + 1) _ (by omega) (uSum hv) a n h
       exact ⟨this.1, by rw [lc1]; omega⟩
theorem uV_lt (p : List Nat) : uV (uintV p) < 18446744073709551616 ∧ uL (uintV p) ≤ p.length := by
 cases h : uintV p with
 | none => exact ⟨by decide, Nat.zero_le _⟩
 | some x => obtain ⟨a, n⟩ := x; have := uGo_lt p 0 0 (by decide) (by decide) a n h; exact ⟨this.1, by show n ≤ _; omega⟩
def rdU (s : List Nat) (e : Int) : Nat × List Nat × Int := if e ≠ 0 then (0, s, e) else if uE (uintV s) ≠ 0 then (0, s, uE (uintV s)) else (uV (uintV s), s.drop (uL (uintV s)), 0)
def rdI (s : List Nat) (e : Int) : Int × List Nat × Int := if e ≠ 0 then (0, s, e) else if uE (uintV s) ≠ 0 then (0, s, uE (uintV s)) else (zzV (uV (uintV s)), s.drop (uL (uintV s)), 0)
def rdS (s : List Nat) (e lo hi : Int) : Int × List Nat × Int := if e ≠ 0 then (0, s, e) else if uE (uintV s) ≠ 0 then (0, s, uE (uintV s)) else if zzV (uV (uintV s)) < lo ∨ hi < zzV (uV (uintV s)) then (0, s, 2) else (zzV (uV (uintV s)), s.drop (uL (uintV s)), 0)
def rdB (s : List Nat) (e : Int) : Nat × List Nat × Int := if e ≠ 0 then (0, s, e) else if s.length = 0 then (0, s, 6) else (s.headD 0, s.drop 1, 0)
theorem nint_fn (A : Option Addr) (q : Nat) (p : List Nat) (hl : p.length ≤ 9223372036854775806) (hp : ∀ b ∈ p, b < 256) :
    Does Tryz.prog 141 [.slice A p.length q] [ros encY A p] (fun r _ => r = .tuple #[.int .i64 (zzV (uV (uintV p))), nv (uL (uintV p)), .int .i64 (uE (uintV p))]) := by
 refine Does.enter Tryz.func141 rfl Tryz.ntmps141 rfl (fun w0 => ?_)
 refine To.s (To.g (To.a ?_))
 refine To.a ?_
 refine To.a (To.n (To.t (To.s (To.g ?_))))
 refine To.m ?_
 refine To.cV rfl rfl rfl (Ent.fn rfl rfl ca139) (nuint_fn A q p hl hp) rfl (ocs (oca 0 rfl) (ocn _)) (To.m ?_)
 refine To.r (Rd.extract rfl rfl rfl) ?_
 refine To.r (Rd.extract rfl rfl rfl) ?_
 refine To.r (Rd.extract rfl rfl rfl) ?_
 refine To.a ?_
 refine To.a ?_
 refine To.a (To.n (To.t (To.s (To.g ?_))))
 refine To.m ?_
 refine To.cV rfl rfl rfl (Ent.fn rfl rfl ca188) (nzz_fn (uV (uintV p)) (uV_lt p).1) rfl (ocn _) (To.m ?_)
 refine To.m ?_
 refine To.a ?_
 refine To.a ?_
 refine To.a (To.n (To.t (To.rt ?_)))
 refine To.end3 (.inl rfl) Tryz.results141 rfl rfl rfl ?_
 rfl
theorem open_fn (b : Nat) (B : Option Addr) (n cap : Nat) (e : Int) :
    Does Tryz.prog 138 [pv b] [box b [.slice B n cap, .int .i64 e] 305] (fun v Γ' => v = .bool (decide (e = 0)) ∧ Γ' = [box b [.slice B n cap, .int .i64 e] 305]) := by
 refine Does.enter Tryz.func138 rfl Tryz.ntmps138 rfl (fun w0 => ?_)
 refine To.s (To.g (To.a (To.n (To.t (To.s (To.g ?_))))))
 refine To.m ?_
 refine To.r (Rd.neqNil rfl Tryz.underlying229 rfl rfl) ?_
 refine To.m ?_
 refine To.m ?_
 refine To.nc ?_
 refine To.f fl305_1 ?_
 refine To.lo 0 c90 ?_
 refine To.eq ?_
 refine To.pT ?_
 refine To.a (To.n (To.t (To.rt ?_)))
 refine To.only [0] rfl (To.end1 (.inl rfl) Tryz.results138 rfl ?_)
 exact ⟨rfl, rfl⟩
theorem take0_fn (b : Nat) (B : Option Addr) (cap : Nat) (s : List Nat) (e e' : Int) (n : Nat) (he : e' = 0) (hn : n ≤ s.length) (hc : s.length ≤ cap) :
    Does Tryz.prog 140 [pv b, nv n, .int .i64 e'] [box b [.slice B s.length cap, .int .i64 e] 305, ros encY B s] (fun v Γ' => ∃ (B' : Option Addr) (cap' : Nat), v = .bool true ∧ Γ' = [box b [.slice B' (s.drop n).length cap', .int .i64 e] 305, ros encY B' (s.drop n)] ∧ (s.drop n).length ≤ cap') := by
 refine Does.enter Tryz.func140 rfl Tryz.ntmps140 rfl (fun w0 => ?_)
 refine To.s (To.g (To.a (To.n (To.t (To.s (To.s (To.g ?_)))))))
 refine To.m ?_
 refine To.ne ?_
 refine To.n (To.t (To.cp rfl (fun c8 => ?_) (fun c8 => ?_)))
 exact absurd he c8
 refine To.sp (To.t (To.s (To.g (To.m ?_))))
 refine To.m ?_
 refine To.nc ?_
 refine To.f fl305_0 ?_
 refine To.lo 0 c22 ?_
 refine To.m ?_
 refine To.r (Rd.as (v' := .slice (slAt B cap n 1) (s.drop n).length (cap - n)) (congrArg (fun z => Value.slice (slAt B cap n 1) z (cap - n)) (List.length_drop).symm) (Rd.sliceLo (lo := n) rfl s22 rfl rfl (by omega))) ?_
 refine To.nc ?_
 refine To.f fl305_0 ?_
 refine To.u (Up.store (i := 0) rfl rfl rfl c22 rfl rfl (bt1 rfl)) ?_
 refine To.n (To.t (To.s (To.g (To.a (To.n (To.t (To.rt ?_)))))))
 refine To.tailR encY_ok cap n 1 rfl hc (by omega) (To.only [1, 0] rfl (To.end1 (.inl rfl) Tryz.results140 rfl ?_))
 exact ⟨_, _, rfl, rfl, by rw [List.length_drop]; omega⟩
theorem takeE_fn (b : Nat) (B : Option Addr) (cap : Nat) (s : List Nat) (e e' : Int) (n : Nat) (he : ¬ e' = 0) :
    Does Tryz.prog 140 [pv b, nv n, .int .i64 e'] [box b [.slice B s.length cap, .int .i64 e] 305, ros encY B s] (fun v Γ' => v = .bool false ∧ Γ' = [box b [.slice B s.length cap, .int .i64 e'] 305, ros encY B s]) := by
 refine Does.enter Tryz.func140 rfl Tryz.ntmps140 rfl (fun w0 => ?_)
 refine To.s (To.g (To.a (To.n (To.t (To.s (To.s (To.g ?_)))))))
 refine To.m ?_
 refine To.ne ?_
 refine To.n (To.t (To.cp rfl (fun c8 => ?_) (fun c8 => ?_)))
 refine To.s (To.g (To.m ?_))
 refine To.m ?_
 refine To.nc ?_
 refine To.f fl305_1 ?_
 refine To.u (Up.store (i := 0) rfl rfl rfl c90 rfl rfl (bt1 rfl)) ?_
 refine To.n (To.t (To.s (To.g (To.a (To.n (To.t (To.rt (To.tr ?_))))))))
 refine To.only [0, 0] rfl (To.end1 (.inl rfl) Tryz.results140 rfl ?_)
 exact ⟨rfl, rfl⟩
 exact absurd (Decidable.not_not.1 c8) he
def tkS (s : List Nat) (n : Nat) (e' : Int) : List Nat := if e' = 0 then s.drop n else s
def tkE (e e' : Int) : Int := if e' = 0 then e else e'
theorem take_fn (b : Nat) (B : Option Addr) (cap : Nat) (s : List Nat) (e e' : Int) (n : Nat) (hn : n ≤ s.length) (hc : s.length ≤ cap) : Does Tryz.prog 140 [pv b, nv n, .int .i64 e'] [box b [.slice B s.length cap, .int .i64 e] 305, ros encY B s]
    (fun v Γ' => ∃ (B' : Option Addr) (cap' : Nat), v = .bool (decide (e' = 0)) ∧ Γ' = [box b [.slice B' (tkS s n e').length cap', .int .i64 (tkE e e')] 305, ros encY B' (tkS s n e')] ∧ (tkS s n e').length ≤ cap') := by
 by_cases h : e' = 0
 · refine (take0_fn b B cap s e e' n h hn hc).mono fun v Γ' ⟨B', cap', h1, h2, h3⟩ => ⟨B', cap', ?_, ?_, ?_⟩
   · rw [h1, decide_eq_true h]
   · rw [h2]; unfold tkS tkE; rw [if_pos h, if_pos h]
   · unfold tkS; rw [if_pos h]; exact h3
 · refine (takeE_fn b B cap s e e' n h).mono fun v Γ' ⟨h1, h2⟩ => ⟨B, cap, ?_, ?_, ?_⟩
   · rw [h1, decide_eq_false h]
   · rw [h2]; unfold tkS tkE; rw [if_neg h, if_neg h]
   · unfold tkS; rw [if_neg h]; exact hc
theorem rdU_fn (b : Nat) (B : Option Addr) (cap : Nat) (s : List Nat) (e : Int) (hl : s.length ≤ 9223372036854775806) (hp : ∀ x ∈ s, x < 256) (hc : s.length ≤ cap) :
    Does Tryz.prog 78 [pv b, .int .u64 18446744073709551615] [box b [.slice B s.length cap, .int .i64 e] 305, ros encY B s] (fun v Γ' => ∃ (B' : Option Addr) (cap' : Nat), v = .int .u64 (((rdU s e).1 : Nat) : Int) ∧ Γ' = [box b [.slice B' (rdU s e).2.1.length cap', .int .i64 (rdU s e).2.2] 305, ros encY B' (rdU s e).2.1] ∧ (rdU s e).2.1.length ≤ cap') := by
 refine Does.enter Tryz.func78 rfl Tryz.ntmps78 rfl (fun w0 => ?_)
 refine To.s (To.g (To.a (To.n (To.t (To.s (To.s (To.g ?_)))))))
 refine To.m ?_
 refine To.cl [0] rfl rfl rfl (Ent.fn rfl rfl ca138) rfl (open_fn b B s.length cap e) ?_
 rintro _ _ ⟨rfl, rfl⟩
 refine To.nt ?_
 refine To.n (To.t (To.cond rfl (fun c10 => ?_) (fun c10 => ?_)))
 refine To.s (To.g (To.a (To.n (To.t (To.rt (To.tr ?_))))))
 refine To.only [0, 0] rfl (To.end1 (.inl rfl) Tryz.results78 rfl ?_)
 have he : e ≠ 0 := by simpa using c10
 rw [show rdU s e = (0, s, e) from by unfold rdU; rw [if_pos he]]
 exact ⟨B, cap, rfl, rfl, hc⟩
 refine To.sp (To.t (To.s (To.g (To.m ?_))))
 refine To.nc ?_
 refine To.f fl305_0 ?_
 refine To.lo 0 c22 ?_
 refine To.cV rfl rfl rfl (Ent.fn rfl rfl ca139) (nuint_fn B cap s hl hp) rfl (ocs (oca 1 rfl) (ocn _)) (To.m ?_)
 refine To.r (Rd.extract rfl rfl rfl) ?_
 refine To.r (Rd.extract rfl rfl rfl) ?_
 refine To.r (Rd.extract rfl rfl rfl) ?_
 refine To.a ?_
 refine To.a ?_
 refine To.a (To.n (To.t (To.s (To.s (To.g ?_)))))
 refine To.m ?_
 refine To.eq ?_
 refine To.rdP rfl rfl rfl (Rd.move rfl rfl) (fun g22 => ?_) (fun g22 => ?_)
 refine To.m ?_
 refine To.m ?_
 refine To.gt ?_
 refine To.pT ?_
 refine To.n (To.t (To.cp rfl (fun c26 => ?_) (fun c26 => ?_)))
 have := (uV_lt s).1; exfalso; omega
 refine To.sp (To.t (To.s (To.s (To.g (To.m ?_)))))
 refine To.m ?_
 refine To.m ?_
 refine To.cl [0, 0] rfl rfl rfl (Ent.fn rfl rfl ca140) rfl (take_fn b B cap s e (uE (uintV s)) (uL (uintV s)) (uV_lt s).2 hc) ?_
 rintro _ _ ⟨B', cap', rfl, rfl, hc'⟩
 refine To.nt ?_
 refine To.n (To.t (To.cond rfl (fun c31 => ?_) (fun c31 => ?_)))
 refine To.s (To.g (To.a (To.n (To.t (To.rt (To.tr ?_))))))
 refine To.only [0, 0] rfl (To.end1 (.inl rfl) Tryz.results78 rfl ?_)
 have he : e = 0 := by simpa using c10
 skip
 simp only [Bool.not_eq_true', Bool.not_eq_false', decide_eq_true_eq, decide_eq_false_iff_not] at c31
 have hR : rdU s e = (0, (tkS s (uL (uintV s)) (uE (uintV s))), tkE e (uE (uintV s))) := by
  first | (exfalso; omega) | (unfold rdU; (try unfold tkS tkE); rw [if_neg (by omega)]; ((repeat' split) <;> first | rfl | (exfalso; omega) | (rw [he]; done) | simp_all))
 rw [hR]
 exact ⟨_, _, rfl, rfl, by assumption⟩
 refine To.sp (To.t (To.s (To.g (To.m ?_))))
 refine To.a (To.n (To.t (To.rt ?_)))
 refine To.only [0, 0] rfl (To.end1 (.inl rfl) Tryz.results78 rfl ?_)
 have he : e = 0 := by simpa using c10
 skip
 simp only [Bool.not_eq_true', Bool.not_eq_false', decide_eq_true_eq, decide_eq_false_iff_not] at c31
 have hR : rdU s e = (uV (uintV s), (tkS s (uL (uintV s)) (uE (uintV s))), tkE e (uE (uintV s))) := by
  first | (exfalso; omega) | (unfold rdU; (try unfold tkS tkE); rw [if_neg (by omega)]; ((repeat' split) <;> first | rfl | (exfalso; omega) | (rw [he]; done) | simp_all))
 rw [hR]
 exact ⟨_, _, rfl, rfl, by assumption⟩
 refine To.k ?_
 refine To.k ?_
 refine To.k ?_
 refine To.pF ?_
 refine To.n (To.t (To.condF rfl (To.sp (To.t (To.s (To.s (To.g (To.m ?_))))))))
 refine To.m ?_
 refine To.m ?_
 refine To.cl [0, 0] rfl rfl rfl (Ent.fn rfl rfl ca140) rfl (take_fn b B cap s e (uE (uintV s)) (uL (uintV s)) (uV_lt s).2 hc) ?_
 rintro _ _ ⟨B', cap', rfl, rfl, hc'⟩
 refine To.nt ?_
 refine To.n (To.t (To.cond rfl (fun c31 => ?_) (fun c31 => ?_)))
 refine To.s (To.g (To.a (To.n (To.t (To.rt (To.tr ?_))))))
 refine To.only [0, 0] rfl (To.end1 (.inl rfl) Tryz.results78 rfl ?_)
 have he : e = 0 := by simpa using c10
 simp only [Bool.not_eq_true', Bool.not_eq_false', decide_eq_true_eq, decide_eq_false_iff_not] at c31
 have hR : rdU s e = (0, (tkS s (uL (uintV s)) (uE (uintV s))), tkE e (uE (uintV s))) := by
  first | (exfalso; omega) | (unfold rdU; (try unfold tkS tkE); rw [if_neg (by omega)]; ((repeat' split) <;> first | rfl | (exfalso; omega) | (rw [he]; done) | simp_all))
 rw [hR]
 exact ⟨_, _, rfl, rfl, by assumption⟩
 refine To.sp (To.t (To.s (To.g (To.m ?_))))
 refine To.a (To.n (To.t (To.rt ?_)))
 refine To.only [0, 0] rfl (To.end1 (.inl rfl) Tryz.results78 rfl ?_)
 have he : e = 0 := by simpa using c10
 simp only [Bool.not_eq_true', Bool.not_eq_false', decide_eq_true_eq, decide_eq_false_iff_not] at c31
 have hR : rdU s e = (uV (uintV s), (tkS s (uL (uintV s)) (uE (uintV s))), tkE e (uE (uintV s))) := by
  first | (exfalso; omega) | (unfold rdU; (try unfold tkS tkE); rw [if_neg (by omega)]; ((repeat' split) <;> first | rfl | (exfalso; omega) | (rw [he]; done) | simp_all))
 rw [hR]
 exact ⟨_, _, rfl, rfl, by assumption⟩
theorem rdI_fn (b : Nat) (B : Option Addr) (cap : Nat) (s : List Nat) (e : Int) (hl : s.length ≤ 9223372036854775806) (hp : ∀ x ∈ s, x < 256) (hc : s.length ≤ cap) :
    Does Tryz.prog 82 [pv b] [box b [.slice B s.length cap, .int .i64 e] 305, ros encY B s] (fun v Γ' => ∃ (B' : Option Addr) (cap' : Nat), v = .int .i64 (((rdI s e).1 : Int) : Int) ∧ Γ' = [box b [.slice B' (rdI s e).2.1.length cap', .int .i64 (rdI s e).2.2] 305, ros encY B' (rdI s e).2.1] ∧ (rdI s e).2.1.length ≤ cap') := by
 refine Does.enter Tryz.func82 rfl Tryz.ntmps82 rfl (fun w0 => ?_)
 refine To.s (To.g (To.a (To.n (To.t (To.s (To.s (To.g ?_)))))))
 refine To.m ?_
 refine To.cl [0] rfl rfl rfl (Ent.fn rfl rfl ca138) rfl (open_fn b B s.length cap e) ?_
 rintro _ _ ⟨rfl, rfl⟩
 refine To.nt ?_
 refine To.n (To.t (To.cond rfl (fun c8 => ?_) (fun c8 => ?_)))
 refine To.s (To.g (To.a (To.n (To.t (To.rt (To.tr ?_))))))
 refine To.only [0, 0] rfl (To.end1 (.inl rfl) Tryz.results82 rfl ?_)
 have he : e ≠ 0 := by simpa using c8
 rw [show rdI s e = (0, s, e) from by unfold rdI; rw [if_pos he]]
 exact ⟨B, cap, rfl, rfl, hc⟩
 refine To.sp (To.t (To.s (To.g (To.m ?_))))
 refine To.nc ?_
 refine To.f fl305_0 ?_
 refine To.lo 0 c22 ?_
 refine To.cV rfl rfl rfl (Ent.fn rfl rfl ca141) (nint_fn B cap s hl hp) rfl (ocs (oca 1 rfl) (ocn _)) (To.m ?_)
 refine To.r (Rd.extract rfl rfl rfl) ?_
 refine To.r (Rd.extract rfl rfl rfl) ?_
 refine To.r (Rd.extract rfl rfl rfl) ?_
 refine To.a ?_
 refine To.a ?_
 refine To.a (To.n (To.t (To.s (To.s (To.g ?_)))))
 refine To.m ?_
 refine To.m ?_
 refine To.m ?_
 refine To.cl [0, 0] rfl rfl rfl (Ent.fn rfl rfl ca140) rfl (take_fn b B cap s e (uE (uintV s)) (uL (uintV s)) (uV_lt s).2 hc) ?_
 rintro _ _ ⟨B', cap', rfl, rfl, hc'⟩
 refine To.nt ?_
 refine To.n (To.t (To.cond rfl (fun c22 => ?_) (fun c22 => ?_)))
 refine To.s (To.g (To.a (To.n (To.t (To.rt (To.tr ?_))))))
 refine To.only [0, 0] rfl (To.end1 (.inl rfl) Tryz.results82 rfl ?_)
 have he : e = 0 := by simpa using c8
 simp only [Bool.not_eq_true', Bool.not_eq_false', decide_eq_true_eq, decide_eq_false_iff_not] at c22
 have hR : rdI s e = (0, (tkS s (uL (uintV s)) (uE (uintV s))), tkE e (uE (uintV s))) := by
  first | (exfalso; omega) | (unfold rdI; (try unfold tkS tkE); rw [if_neg (by omega)]; ((repeat' split) <;> first | rfl | (exfalso; omega) | (rw [he]; done) | simp_all))
 rw [hR]
 exact ⟨_, _, rfl, rfl, by assumption⟩
 refine To.sp (To.t (To.s (To.g (To.m ?_))))
 refine To.a (To.n (To.t (To.rt ?_)))
 refine To.only [0, 0] rfl (To.end1 (.inl rfl) Tryz.results82 rfl ?_)
 have he : e = 0 := by simpa using c8
 simp only [Bool.not_eq_true', Bool.not_eq_false', decide_eq_true_eq, decide_eq_false_iff_not] at c22
 have hR : rdI s e = (zzV (uV (uintV s)), (tkS s (uL (uintV s)) (uE (uintV s))), tkE e (uE (uintV s))) := by
  first | (exfalso; omega) | (unfold rdI; (try unfold tkS tkE); rw [if_neg (by omega)]; ((repeat' split) <;> first | rfl | (exfalso; omega) | (rw [he]; done) | simp_all))
 rw [hR]
 exact ⟨_, _, rfl, rfl, by assumption⟩
theorem rdS_fn (b : Nat) (B : Option Addr) (cap : Nat) (s : List Nat) (e : Int) (lo hi : Int) (hl : s.length ≤ 9223372036854775806) (hp : ∀ x ∈ s, x < 256) (hc : s.length ≤ cap) :
    Does Tryz.prog 81 [pv b, .int .i64 lo, .int .i64 hi] [box b [.slice B s.length cap, .int .i64 e] 305, ros encY B s] (fun v Γ' => ∃ (B' : Option Addr) (cap' : Nat), v = .int .i64 (((rdS s e lo hi).1 : Int) : Int) ∧ Γ' = [box b [.slice B' (rdS s e lo hi).2.1.length cap', .int .i64 (rdS s e lo hi).2.2] 305, ros encY B' (rdS s e lo hi).2.1] ∧ (rdS s e lo hi).2.1.length ≤ cap') := by
 refine Does.enter Tryz.func81 rfl Tryz.ntmps81 rfl (fun w0 => ?_)
 refine To.s (To.g (To.a (To.n (To.t (To.s (To.s (To.g ?_)))))))
 refine To.m ?_
 refine To.cl [0] rfl rfl rfl (Ent.fn rfl rfl ca138) rfl (open_fn b B s.length cap e) ?_
 rintro _ _ ⟨rfl, rfl⟩
 refine To.nt ?_
 refine To.n (To.t (To.cond rfl (fun c12 => ?_) (fun c12 => ?_)))
 refine To.s (To.g (To.a (To.n (To.t (To.rt (To.tr ?_))))))
 refine To.only [0, 0] rfl (To.end1 (.inl rfl) Tryz.results81 rfl ?_)
 have he : e ≠ 0 := by simpa using c12
 rw [show rdS s e lo hi = (0, s, e) from by unfold rdS; rw [if_pos he]]
 exact ⟨B, cap, rfl, rfl, hc⟩
 refine To.sp (To.t (To.s (To.g (To.m ?_))))
 refine To.nc ?_
 refine To.f fl305_0 ?_
 refine To.lo 0 c22 ?_
 refine To.cV rfl rfl rfl (Ent.fn rfl rfl ca141) (nint_fn B cap s hl hp) rfl (ocs (oca 1 rfl) (ocn _)) (To.m ?_)
 refine To.r (Rd.extract rfl rfl rfl) ?_
 refine To.r (Rd.extract rfl rfl rfl) ?_
 refine To.r (Rd.extract rfl rfl rfl) ?_
 refine To.a ?_
 refine To.a ?_
 refine To.a (To.n (To.t (To.s (To.s (To.g ?_)))))
 refine To.m ?_
 refine To.eq ?_
 refine To.rdP rfl rfl rfl (Rd.move rfl rfl) (fun g24 => ?_) (fun g24 => ?_)
 refine To.m ?_
 refine To.m ?_
 refine To.lt ?_
 refine To.rdP rfl rfl rfl (Rd.move rfl rfl) (fun g28 => ?_) (fun g28 => ?_)
 refine To.k ?_
 refine To.k ?_
 refine To.k ?_
 refine To.pT ?_
 refine To.pT ?_
 refine To.n (To.t (To.condT rfl (To.g (To.a (To.n (To.t (To.s (To.s (To.g ?_)))))))))
 refine To.m ?_
 refine To.m ?_
 refine To.m ?_
 refine To.cl [0, 0] rfl rfl rfl (Ent.fn rfl rfl ca140) rfl (take_fn b B cap s e 2 (uL (uintV s)) (uV_lt s).2 hc) ?_
 rintro _ _ ⟨B', cap', rfl, rfl, hc'⟩
 refine To.nt ?_
 refine To.n (To.t (To.cond rfl (fun c38 => ?_) (fun c38 => ?_)))
 refine To.s (To.g (To.a (To.n (To.t (To.rt (To.tr ?_))))))
 refine To.only [0, 0] rfl (To.end1 (.inl rfl) Tryz.results81 rfl ?_)
 have he : e = 0 := by simpa using c12
 simp only [Bool.not_eq_true', Bool.not_eq_false', decide_eq_true_eq, decide_eq_false_iff_not] at c38
 have hR : rdS s e lo hi = (0, (tkS s (uL (uintV s)) 2), tkE e 2) := by
  first | (exfalso; omega) | (unfold rdS; (try unfold tkS tkE); rw [if_neg (by omega)]; ((repeat' split) <;> first | rfl | (exfalso; omega) | (rw [he]; done) | simp_all))
 rw [hR]
 exact ⟨_, _, rfl, rfl, by assumption⟩
 refine To.sp (To.t (To.s (To.g (To.m ?_))))
 refine To.a (To.n (To.t (To.rt ?_)))
 refine To.only [0, 0] rfl (To.end1 (.inl rfl) Tryz.results81 rfl ?_)
 have he : e = 0 := by simpa using c12
 simp only [Bool.not_eq_true', Bool.not_eq_false', decide_eq_true_eq, decide_eq_false_iff_not] at c38
 have hR : rdS s e lo hi = (zzV (uV (uintV s)), (tkS s (uL (uintV s)) 2), tkE e 2) := by
  first | (exfalso; omega) | (unfold rdS; (try unfold tkS tkE); rw [if_neg (by omega)]; ((repeat' split) <;> first | rfl | (exfalso; omega) | (rw [he]; done) | simp_all))
 rw [hR]
 exact ⟨_, _, rfl, rfl, by assumption⟩
 refine To.m ?_
 refine To.m ?_
 refine To.gt ?_
 refine To.pF ?_
 refine To.pT ?_
 refine To.n (To.t (To.cp rfl (fun c33 => ?_) (fun c33 => ?_)))
 refine To.g (To.a (To.n (To.t (To.s (To.s (To.g ?_))))))
 refine To.m ?_
 refine To.m ?_
 refine To.m ?_
 refine To.cl [0, 0] rfl rfl rfl (Ent.fn rfl rfl ca140) rfl (take_fn b B cap s e 2 (uL (uintV s)) (uV_lt s).2 hc) ?_
 rintro _ _ ⟨B', cap', rfl, rfl, hc'⟩
 refine To.nt ?_
 refine To.n (To.t (To.cond rfl (fun c38 => ?_) (fun c38 => ?_)))
 refine To.s (To.g (To.a (To.n (To.t (To.rt (To.tr ?_))))))
 refine To.only [0, 0] rfl (To.end1 (.inl rfl) Tryz.results81 rfl ?_)
 have he : e = 0 := by simpa using c12
 skip
 simp only [Bool.not_eq_true', Bool.not_eq_false', decide_eq_true_eq, decide_eq_false_iff_not] at c38
 have hR : rdS s e lo hi = (0, (tkS s (uL (uintV s)) 2), tkE e 2) := by
  first | (exfalso; omega) | (unfold rdS; (try unfold tkS tkE); rw [if_neg (by omega)]; ((repeat' split) <;> first | rfl | (exfalso; omega) | (rw [he]; done) | simp_all))
 rw [hR]
 exact ⟨_, _, rfl, rfl, by assumption⟩
 refine To.sp (To.t (To.s (To.g (To.m ?_))))
 refine To.a (To.n (To.t (To.rt ?_)))
 refine To.only [0, 0] rfl (To.end1 (.inl rfl) Tryz.results81 rfl ?_)
 have he : e = 0 := by simpa using c12
 skip
 simp only [Bool.not_eq_true', Bool.not_eq_false', decide_eq_true_eq, decide_eq_false_iff_not] at c38
 have hR : rdS s e lo hi = (zzV (uV (uintV s)), (tkS s (uL (uintV s)) 2), tkE e 2) := by
  first | (exfalso; omega) | (unfold rdS; (try unfold tkS tkE); rw [if_neg (by omega)]; ((repeat' split) <;> first | rfl | (exfalso; omega) | (rw [he]; done) | simp_all))
 rw [hR]
 exact ⟨_, _, rfl, rfl, by assumption⟩
 refine To.sp (To.t (To.s (To.s (To.g (To.m ?_)))))
 refine To.m ?_
 refine To.m ?_
 refine To.cl [0, 0] rfl rfl rfl (Ent.fn rfl rfl ca140) rfl (take_fn b B cap s e (uE (uintV s)) (uL (uintV s)) (uV_lt s).2 hc) ?_
 rintro _ _ ⟨B', cap', rfl, rfl, hc'⟩
 refine To.nt ?_
 refine To.n (To.t (To.cond rfl (fun c38 => ?_) (fun c38 => ?_)))
 refine To.s (To.g (To.a (To.n (To.t (To.rt (To.tr ?_))))))
 refine To.only [0, 0] rfl (To.end1 (.inl rfl) Tryz.results81 rfl ?_)
 have he : e = 0 := by simpa using c12
 skip
 simp only [Bool.not_eq_true', Bool.not_eq_false', decide_eq_true_eq, decide_eq_false_iff_not] at c38
 have hR : rdS s e lo hi = (0, (tkS s (uL (uintV s)) (uE (uintV s))), tkE e (uE (uintV s))) := by
  first | (exfalso; omega) | (unfold rdS; (try unfold tkS tkE); rw [if_neg (by omega)]; ((repeat' split) <;> first | rfl | (exfalso; omega) | (rw [he]; done) | simp_all))
 rw [hR]
 exact ⟨_, _, rfl, rfl, by assumption⟩
 refine To.sp (To.t (To.s (To.g (To.m ?_))))
 refine To.a (To.n (To.t (To.rt ?_)))
 refine To.only [0, 0] rfl (To.end1 (.inl rfl) Tryz.results81 rfl ?_)
 have he : e = 0 := by simpa using c12
 skip
 simp only [Bool.not_eq_true', Bool.not_eq_false', decide_eq_true_eq, decide_eq_false_iff_not] at c38
 have hR : rdS s e lo hi = (zzV (uV (uintV s)), (tkS s (uL (uintV s)) (uE (uintV s))), tkE e (uE (uintV s))) := by
  first | (exfalso; omega) | (unfold rdS; (try unfold tkS tkE); rw [if_neg (by omega)]; ((repeat' split) <;> first | rfl | (exfalso; omega) | (rw [he]; done) | simp_all))
 rw [hR]
 exact ⟨_, _, rfl, rfl, by assumption⟩
 refine To.k ?_
 refine To.k ?_
 refine To.k ?_
 refine To.k ?_
 refine To.k ?_
 refine To.k ?_
 refine To.k ?_
 refine To.k ?_
 refine To.pF ?_
 refine To.n (To.t (To.condF rfl (To.sp (To.t (To.s (To.s (To.g (To.m ?_))))))))
 refine To.m ?_
 refine To.m ?_
 refine To.cl [0, 0] rfl rfl rfl (Ent.fn rfl rfl ca140) rfl (take_fn b B cap s e (uE (uintV s)) (uL (uintV s)) (uV_lt s).2 hc) ?_
 rintro _ _ ⟨B', cap', rfl, rfl, hc'⟩
 refine To.nt ?_
 refine To.n (To.t (To.cond rfl (fun c38 => ?_) (fun c38 => ?_)))
 refine To.s (To.g (To.a (To.n (To.t (To.rt (To.tr ?_))))))
 refine To.only [0, 0] rfl (To.end1 (.inl rfl) Tryz.results81 rfl ?_)
 have he : e = 0 := by simpa using c12
 simp only [Bool.not_eq_true', Bool.not_eq_false', decide_eq_true_eq, decide_eq_false_iff_not] at c38
 have hR : rdS s e lo hi = (0, (tkS s (uL (uintV s)) (uE (uintV s))), tkE e (uE (uintV s))) := by
  first | (exfalso; omega) | (unfold rdS; (try unfold tkS tkE); rw [if_neg (by omega)]; ((repeat' split) <;> first | rfl | (exfalso; omega) | (rw [he]; done) | simp_all))
 rw [hR]
 exact ⟨_, _, rfl, rfl, by assumption⟩
 refine To.sp (To.t (To.s (To.g (To.m ?_))))
 refine To.a (To.n (To.t (To.rt ?_)))
 refine To.only [0, 0] rfl (To.end1 (.inl rfl) Tryz.results81 rfl ?_)
 have he : e = 0 := by simpa using c12
 simp only [Bool.not_eq_true', Bool.not_eq_false', decide_eq_true_eq, decide_eq_false_iff_not] at c38
 have hR : rdS s e lo hi = (zzV (uV (uintV s)), (tkS s (uL (uintV s)) (uE (uintV s))), tkE e (uE (uintV s))) := by
  first | (exfalso; omega) | (unfold rdS; (try unfold tkS tkE); rw [if_neg (by omega)]; ((repeat' split) <;> first | rfl | (exfalso; omega) | (rw [he]; done) | simp_all))
 rw [hR]
 exact ⟨_, _, rfl, rfl, by assumption⟩
theorem head_of {s : List Nat} {y : Nat} (h : s[0]? = some y) : s.headD 0 = y := by
 cases s with
 | nil => cases h
 | cons a r => simpa using h
theorem rows_cap {Γ : List Chunk} {w : World} {α : Type} {enc : α → List Value} {size : Nat} {e : TypeId} {A : Option Addr} {cap : Nat} {l : List α} (i : Nat) (h : Γ[i]? = some (rows enc e size A cap l)) (hs : sat Γ w) : l.length ≤ cap := by
 obtain ⟨A', cap', h1, _, h2, _⟩ := own_form (show w.ownsRow 0 e size (.slice A l.length cap) l.length _ from hs.each _ (mog h))
 simp only [Value.slice.injEq] at h1
 omega
theorem rdB_fn (b : Nat) (B : Option Addr) (cap : Nat) (s : List Nat) (e : Int) (hl : s.length ≤ 9223372036854775806) (hp : ∀ x ∈ s, x < 256) (hc : s.length ≤ cap) :
    Does Tryz.prog 80 [pv b] [box b [.slice B s.length cap, .int .i64 e] 305, ros encY B s] (fun v Γ' => ∃ (B' : Option Addr) (cap' : Nat), v = .int .u8 (((rdB s e).1 : Nat) : Int) ∧ Γ' = [box b [.slice B' (rdB s e).2.1.length cap', .int .i64 (rdB s e).2.2] 305, ros encY B' (rdB s e).2.1] ∧ (rdB s e).2.1.length ≤ cap') := by
 refine Does.enter Tryz.func80 rfl Tryz.ntmps80 rfl (fun w0 => ?_)
 refine To.s (To.g (To.a (To.n (To.t (To.s (To.s (To.g ?_)))))))
 refine To.m ?_
 refine To.cl [0] rfl rfl rfl (Ent.fn rfl rfl ca138) rfl (open_fn b B s.length cap e) ?_
 rintro _ _ ⟨rfl, rfl⟩
 refine To.nt ?_
 refine To.n (To.t (To.cond rfl (fun c6 => ?_) (fun c6 => ?_)))
 refine To.s (To.g (To.a (To.n (To.t (To.rt (To.tr ?_))))))
 refine To.only [0, 0] rfl (To.end1 (.inl rfl) Tryz.results80 rfl ?_)
 have he : e ≠ 0 := by simpa using c6
 rw [show rdB s e = (0, s, e) from by unfold rdB; rw [if_pos he]]
 exact ⟨B, cap, rfl, rfl, hc⟩
 refine To.sp (To.t (To.s (To.s (To.g (To.m ?_)))))
 refine To.nc ?_
 refine To.f fl305_0 ?_
 refine To.lo 0 c22 ?_
 refine To.r (Rd.len rfl rfl Tryz.underlying22) ?_
 refine To.eq ?_
 refine To.n (To.t (To.cp rfl (fun c12 => ?_) (fun c12 => ?_)))
 refine To.s (To.g (To.m ?_))
 refine To.nc ?_
 refine To.f fl305_1 ?_
 refine To.u (Up.store (i := 0) rfl rfl rfl c90 rfl rfl (bt1 rfl)) ?_
 refine To.n (To.t (To.s (To.g (To.a (To.n (To.t (To.rt (To.tr ?_))))))))
 refine To.only [0, 0] rfl (To.end1 (.inl rfl) Tryz.results80 rfl ?_)
 have he : e = 0 := by simpa using c6
 rw [show rdB s e = (0, s, 6) from by unfold rdB; rw [if_neg (by omega), if_pos (by omega)]]
 exact ⟨B, cap, rfl, rfl, hc⟩
 obtain ⟨y, hy⟩ : ∃ z0, s[0]? = some z0 := ⟨s[0]'(by omega), gge _⟩
 refine To.sp (To.t (To.s (To.g (To.m ?_))))
 refine To.nc ?_
 refine To.f fl305_0 ?_
 refine To.lo 0 c22 ?_
 refine To.r (Rd.ixo encY_ok (i := 1) (j := 0) rfl rfl rfl s22 rfl hy) ?_
 refine To.r (Rd.ld (i := 1) rfl rfl c5 rfl (gives_1 (rsg encY_ok hy) rfl)) ?_
 refine To.a (To.n (To.t (To.s (To.g ?_))))
 refine To.m ?_
 refine To.m ?_
 refine To.nc ?_
 refine To.f fl305_0 ?_
 refine To.lo 0 c22 ?_
 refine To.r (Rd.as (v' := .slice (slAt B cap 1 1) (s.drop 1).length (cap - 1)) (congrArg (fun z => Value.slice (slAt B cap 1 1) z (cap - 1)) (List.length_drop).symm) (Rd.sliceLo (lo := 1) rfl s22 rfl rfl (by omega))) ?_
 refine To.nc ?_
 refine To.f fl305_0 ?_
 refine To.u (Up.store (i := 0) rfl rfl rfl c22 rfl rfl (bt1 rfl)) ?_
 refine To.n (To.t (To.s (To.g (To.m ?_))))
 refine To.a (To.n (To.t (To.rt ?_)))
 refine To.tailR encY_ok cap 1 1 rfl hc (by omega) (To.only [1, 0] rfl (To.end1 (.inl rfl) Tryz.results80 rfl ?_))
 have he : e = 0 := by simpa using c6
 rw [show rdB s e = (y, s.drop 1, e) from by unfold rdB; rw [if_neg (by omega), if_neg (by omega), head_of hy, he]]
 exact ⟨_, _, rfl, rfl, by rw [List.length_drop]; omega⟩
theorem left_fn (b : Nat) (B : Option Addr) (n cap : Nat) (e : Int) :
    Does Tryz.prog 83 [pv b] [box b [.slice B n cap, .int .i64 e] 305] (fun v Γ' => v = nv n ∧ Γ' = [box b [.slice B n cap, .int .i64 e] 305]) := by
 refine Does.enter Tryz.func83 rfl Tryz.ntmps83 rfl (fun w0 => ?_)
 refine To.s (To.g (To.a (To.n (To.t (To.s (To.s (To.g ?_)))))))
 refine To.m ?_
 refine To.r (Rd.eqlNil rfl Tryz.underlying229 rfl rfl) ?_
 refine To.n (To.t (To.condF rfl (To.sp (To.t (To.s (To.g (To.m ?_)))))))
 refine To.nc ?_
 refine To.f fl305_0 ?_
 refine To.lo 0 c22 ?_
 refine To.r (Rd.len rfl rfl Tryz.underlying22) ?_
 refine To.a (To.n (To.t (To.rt ?_)))
 refine To.only [0] rfl (To.end1 (.inl rfl) Tryz.results83 rfl ?_)
 exact ⟨rfl, rfl⟩
theorem err_fn (b : Nat) (B : Option Addr) (n cap : Nat) (e : Int) :
    Does Tryz.prog 79 [pv b] [box b [.slice B n cap, .int .i64 e] 305] (fun v Γ' => v = .int .i64 e ∧ Γ' = [box b [.slice B n cap, .int .i64 e] 305]) := by
 refine Does.enter Tryz.func79 rfl Tryz.ntmps79 rfl (fun w0 => ?_)
 refine To.s (To.g (To.a (To.n (To.t (To.s (To.s (To.g ?_)))))))
 refine To.m ?_
 refine To.r (Rd.eqlNil rfl Tryz.underlying229 rfl rfl) ?_
 refine To.n (To.t (To.condF rfl (To.sp (To.t (To.s (To.g (To.m ?_)))))))
 refine To.nc ?_
 refine To.f fl305_1 ?_
 refine To.lo 0 c90 ?_
 refine To.a (To.n (To.t (To.rt ?_)))
 refine To.only [0] rfl (To.end1 (.inl rfl) Tryz.results79 rfl ?_)
 exact ⟨rfl, rfl⟩
theorem new_fn (A : Option Addr) (q : Nat) (p : List Nat) (hl : p.length ≤ 150000000000000) :
    Does Tryz.prog 77 [.slice A p.length q] [ros encY A p] (fun v Γ' => ∃ (b : Nat) (B : Option Addr) (cap : Nat), v = pv b ∧ Γ' = [box b [.slice B p.length cap, .int .i64 0] 305, ros encY B p] ∧ p.length ≤ cap) := by
 refine Does.enter Tryz.func77 rfl Tryz.ntmps77 rfl (fun w0 => ?_)
 refine To.s (To.g (To.a (To.n (To.t (To.s (To.g ?_))))))
 refine To.mk rfl rfl rfl (Mk.slice0R (α := Nat) (enc := encY) rfl s22) ?_
 rintro _ _ ⟨A3, rfl, rfl⟩
 refine To.m ?_
 refine To.ge rfl rfl rfl (Ge.appendBig encY_ok (i := 0) (m := p) rfl s22 rfl rfl rfl (src_ro (i := 1) rfl) (by simp only [ln0]; omega)) ?_
 rintro _ _ ⟨A5, q5, rfl, rfl⟩
 refine To.r (Rd.build (vs := [(0, .slice A5 (([] ++ p : List Nat).length) q5)]) (cells := [.slice A5 (([] ++ p : List Nat).length) q5, .int .i64 0]) rfl rfl rfl (by kernel_rfl)) ?_
 refine To.boxed rfl rfl rfl rfl rfl rfl (fun b7 => ?_)
 refine To.a (To.n (To.t (To.rt ?_)))
 refine To.know (p := ([] ++ p : List Nat).length ≤ q5) (fun w hw => rows_cap 1 rfl hw) (fun hcap => ?_)
 refine To.only [1, 0, 0] rfl (To.layRow (To.only [1, 0] rfl (To.end1 (.inl rfl) Tryz.results77 rfl ?_)))
 exact ⟨_, _, _, rfl, rfl, hcap⟩
abbrev LO : Int := -2147483648
abbrev HI : Int := 2147483647
def natV (s : List Nat) : Option (Nat × List Nat) := (uintV s).map fun x => (x.1, s.drop x.2)
def intV (s : List Nat) : Option (Int × List Nat) := (uintV s).map fun x => (zzV x.1, s.drop x.2)
def smallV (s : List Nat) : Option (Int × List Nat) := (uintV s).bind fun x => if zzV x.1 < LO ∨ HI < zzV x.1 then none else some (zzV x.1, s.drop x.2)
def instrV : List Nat → Option (Ins × List Nat)
 | [] => none
 | o :: r => if o < 1 ∨ 34 < o then none else (smallV r).bind fun x => (smallV x.2).bind fun y => (intV y.2).map fun z => (⟨o, x.1, y.1, z.1⟩, z.2)
def instrsV : Nat → List Nat → Option (List Ins × List Nat)
 | 0, s => some ([], s)
 | n + 1, s => (instrV s).bind fun x => (instrsV n x.2).map fun y => (x.1 :: y.1, y.2)
def headV (p : List Nat) : Option (Nat × Nat × Nat × List Nat) := (natV p).bind fun x => (natV x.2).bind fun y => (natV y.2).map fun z => (x.1, y.1, z.1, z.2)
def readV (p : List Nat) : (Nat × Nat × List Ins) × Nat × Int := match headV p with
 | none => ((0, 0, []), 0, 6)
 | some (a, b, n, s) => if 255 < a ∨ 255 < b ∨ 4000 < n then ((0, 0, []), 0, 3) else match instrsV n s with
   | none => ((0, 0, []), 0, 6)
   | some (l, r) => ((a, b, l), p.length - r.length, 0)
theorem rdU_ok (s : List Nat) : rdU s 0 = match natV s with | none => (0, s, 6) | some (v, r) => (v, r, 0) := by
 unfold rdU natV
 rw [if_neg (by decide)]
 cases h : uintV s with
 | none => rfl
 | some x => rfl
theorem rdI_ok (s : List Nat) : rdI s 0 = match intV s with | none => (0, s, 6) | some (v, r) => (v, r, 0) := by
 unfold rdI intV
 rw [if_neg (by decide)]
 cases h : uintV s with
 | none => rfl
 | some x => rfl
theorem rdS_ok (s : List Nat) : (∀ v r, smallV s = some (v, r) → rdS s 0 LO HI = (v, r, 0)) ∧ (smallV s = none → (rdS s 0 LO HI).2.2 ≠ 0) := by
 unfold rdS smallV
 rw [if_neg (by decide)]
 cases h : uintV s with
 | none => exact ⟨fun v r e => by (cases e), fun _ => show (6 : Int) ≠ 0 by decide⟩
 | some x =>
   have e0 : uE (some x) = 0 := rfl
   rw [if_neg (by rw [e0]; decide)]
   show (∀ v r, (if zzV x.1 < LO ∨ HI < zzV x.1 then none else some (zzV x.1, s.drop x.2)) = some (v, r) → (if zzV x.1 < LO ∨ HI < zzV x.1 then ((0 : Int), s, (2 : Int)) else (zzV x.1, s.drop x.2, 0)) = (v, r, 0)) ∧ ((if zzV x.1 < LO ∨ HI < zzV x.1 then none else some (zzV x.1, s.drop x.2)) = none → (if zzV x.1 < LO ∨ HI < zzV x.1 then ((0 : Int), s, (2 : Int)) else (zzV x.1, s.drop x.2, 0)).2.2 ≠ 0)
   by_cases hc : zzV x.1 < LO ∨ HI < zzV x.1
   · rw [if_pos hc, if_pos hc]; exact ⟨fun v r e => by (cases e), fun _ => show (2 : Int) ≠ 0 by decide⟩
   · rw [if_neg hc, if_neg hc]; exact ⟨fun v r e => by simp only [Option.some.injEq, Prod.mk.injEq] at e; rw [e.1, e.2], fun e => by (cases e)⟩
theorem rdI_err {s : List Nat} {e : Int} (h : e ≠ 0) : rdI s e = (0, s, e) := by unfold rdI; rw [if_pos h]
theorem rdU_err {s : List Nat} {e : Int} (h : e ≠ 0) : rdU s e = (0, s, e) := by unfold rdU; rw [if_pos h]
theorem rdS_err {s : List Nat} {e lo hi : Int} (h : e ≠ 0) : rdS s e lo hi = (0, s, e) := by unfold rdS; rw [if_pos h]
def kB (s : List Nat) := rdB s 0
def kA (s : List Nat) := rdS (kB s).2.1 (kB s).2.2 LO HI
def kA2 (s : List Nat) := rdS (kA s).2.1 (kA s).2.2 LO HI
def kN (s : List Nat) := rdI (kA2 s).2.1 (kA2 s).2.2
theorem instr_eq (s : List Nat) : instrV s = if (kN s).2.2 = 0 ∧ 1 ≤ (kB s).1 ∧ (kB s).1 ≤ 34 then some (⟨(kB s).1, (kA s).1, (kA2 s).1, (kN s).1⟩, (kN s).2.1) else none := by
 cases s with
 | nil => rw [if_neg (by rintro ⟨_, h, _⟩; exact absurd h (by decide))]; rfl
 | cons o r =>
   have eb : kB (o :: r) = (o, r, 0) := by unfold kB rdB; rw [if_neg (by decide), if_neg (by simp)]; rfl
   show (if o < 1 ∨ 34 < o then none else (smallV r).bind fun x => (smallV x.2).bind fun y => (intV y.2).map fun z => ((⟨o, x.1, y.1, z.1⟩ : Ins), z.2)) = _
   by_cases ho : o < 1 ∨ 34 < o
   · rw [if_pos ho, if_neg (by rw [eb]; rintro ⟨_, h1, h2⟩; simp only at h1 h2; omega)]
   · rw [if_neg ho]
     have ea : kA (o :: r) = rdS r 0 LO HI := by unfold kA; rw [eb]
     have h1 := rdS_ok r
     cases hs : smallV r with
     | none =>
       have hn := h1.2 hs
       have ea2 : (kA2 (o :: r)).2.2 ≠ 0 := by unfold kA2; rw [ea, rdS_err hn]; exact hn
       have en : (kN (o :: r)).2.2 ≠ 0 := by unfold kN; rw [rdI_err ea2]; exact ea2
       rw [if_neg (fun h => en h.1)]; rfl
     | some x =>
       obtain ⟨a, s2⟩ := x
       have e1 := h1.1 a s2 hs
       have ea2 : kA2 (o :: r) = rdS s2 0 LO HI := by unfold kA2; rw [ea, e1]
       have h2 := rdS_ok s2
       show (smallV s2).bind _ = _
       cases hs2 : smallV s2 with
       | none =>
         have hn := h2.2 hs2
         have en : (kN (o :: r)).2.2 ≠ 0 := by unfold kN; rw [ea2, rdI_err hn]; exact hn
         rw [if_neg (fun h => en h.1)]; rfl
       | some y =>
         obtain ⟨b, s3⟩ := y
         have e2 := h2.1 b s3 hs2
         have en : kN (o :: r) = rdI s3 0 := by unfold kN; rw [ea2, e2]
         have h3 := rdI_ok s3
         show (intV s3).map _ = _
         cases hi : intV s3 with
         | none =>
           rw [hi] at h3
           rw [if_neg (by rw [en, h3]; rintro ⟨h, _⟩; exact absurd (show (6 : Int) = 0 from h) (by decide))]; rfl
         | some z =>
           obtain ⟨n, s4⟩ := z
           rw [hi] at h3
           rw [if_pos (by rw [en, h3, eb]; exact ⟨rfl, by show 1 ≤ o; omega, by show o ≤ 34; omega⟩), en, h3, eb, ea, e1, ea2, e2]
           rfl
def hd1 (p : List Nat) := rdU p 0
def hd2 (p : List Nat) := rdU (hd1 p).2.1 (hd1 p).2.2
def hd3 (p : List Nat) := rdU (hd2 p).2.1 (hd2 p).2.2
theorem head_eq (p : List Nat) : ((hd3 p).2.2 = 0 → headV p = some ((hd1 p).1, (hd2 p).1, (hd3 p).1, (hd3 p).2.1)) ∧ ((hd3 p).2.2 ≠ 0 → headV p = none ∧ (hd3 p).2.2 = 6) := by
 unfold headV
 have h1 := rdU_ok p
 cases hp : natV p with
 | none =>
   rw [hp] at h1
   have e2 : hd2 p = (0, p, 6) := by unfold hd2 hd1; rw [h1]; exact rdU_err (e := 6) (by decide)
   have e3 : hd3 p = (0, p, 6) := by unfold hd3; rw [e2]; exact rdU_err (show (6 : Int) ≠ 0 by decide)
   rw [e3]
   exact ⟨fun h => absurd (show (6 : Int) = 0 from h) (by decide), fun _ => ⟨rfl, rfl⟩⟩
 | some x =>
   obtain ⟨a, s1⟩ := x
   rw [hp] at h1
   have e1 : hd1 p = (a, s1, 0) := h1
   have h2 := rdU_ok s1
   show (_ → (natV s1).bind _ = _) ∧ (_ → (natV s1).bind _ = _ ∧ _)
   cases hp2 : natV s1 with
   | none =>
     rw [hp2] at h2
     have e2 : hd2 p = (0, s1, 6) := by unfold hd2; rw [e1]; exact h2
     have e3 : hd3 p = (0, s1, 6) := by unfold hd3; rw [e2]; exact rdU_err (show (6 : Int) ≠ 0 by decide)
     rw [e3]
     exact ⟨fun h => absurd (show (6 : Int) = 0 from h) (by decide), fun _ => ⟨rfl, rfl⟩⟩
   | some y =>
     obtain ⟨b, s2⟩ := y
     rw [hp2] at h2
     have e2 : hd2 p = (b, s2, 0) := by unfold hd2; rw [e1]; exact h2
     have h3 := rdU_ok s2
     show (_ → (natV s2).map _ = _) ∧ (_ → (natV s2).map _ = _ ∧ _)
     cases hp3 : natV s2 with
     | none =>
       rw [hp3] at h3
       have e3 : hd3 p = (0, s2, 6) := by unfold hd3; rw [e2]; exact h3
       rw [e3]
       exact ⟨fun h => absurd (show (6 : Int) = 0 from h) (by decide), fun _ => ⟨rfl, rfl⟩⟩
     | some z =>
       obtain ⟨n, s3⟩ := z
       rw [hp3] at h3
       have e3 : hd3 p = (n, s3, 0) := by unfold hd3; rw [e2]; exact h3
       rw [e3, e2, e1]
       exact ⟨fun _ => rfl, fun h => absurd rfl h⟩
theorem instrs_step {m : Nat} {s s' : List Nat} {x : Ins} (h : instrV s = some (x, s')) : instrsV (m + 1) s = (instrsV m s').map fun y => (x :: y.1, y.2) := by rw [instrsV, h]; rfl
theorem instrs_bad {m : Nat} {s : List Nat} (h : instrV s = none) : instrsV (m + 1) s = none := by rw [instrsV, h]; rfl
theorem acc_step {O : List Ins} {x : Ins} (z : Option (List Ins × List Nat)) : ((z.map fun y => (x :: y.1, y.2)).map fun y => (O ++ y.1, y.2)) = z.map fun y => ((O ++ [x]) ++ y.1, y.2) := by
 cases z with
 | none => rfl
 | some y => simp
theorem To.endCTT {P : Program} {C : Cx} {ρ : Slots} {Γ Δ E : List Chunk} {R : Value → List Chunk → Prop} {fn : Func} {ex : Exit} {t b n i u u2 : Nat} {ty ty' : TypeId} {cs : List Value} {v v2 : Value} (is : List Nat) (hpl : pull Γ is = some (Δ, E)) (hex : ex = .ret ∨ ex = .normal) (hres : fn.results = #[.cell t ty, .tmp u, .tmp u2]) (hv : Sep.look ρ t = some (pv b))
    (hi : Γ[i]? = some (box b cs ty')) (ht : RowTy P ty n) (hl : cs.length = n) (hu : Sep.look ρ u = some v) (hu2 : Sep.look ρ u2 = some v2) (h : R (.tuple #[.agg cs.toArray, v, v2]) Δ) (hds : C.ds = [] := by rfl) : To C ρ Γ (bodyPost P fn (Fin C R) ex) := fun a w ha hp => by
 have hr : (results fn a.tmps).run P w = .ok (.tuple #[.agg cs.toArray, v, v2]) w := by
  obtain ⟨d, h1, h2, h3⟩ := ht
  have hw := hp.sat.each _ (mog hi)
  have := run_loadVar_mid (P := P) w b 0 ty cs d (range_of_whole hw) h1 h2 (by rw [hl]; exact h3)
  have he : a.tmps[t]?.getD undef = pv b := by rw [ha.sees t _ hv]; rfl
  have he2 : a.tmps[u]?.getD undef = v := by rw [ha.sees u _ hu]; rfl
  have he3 : a.tmps[u2]?.getD undef = v2 := by rw [ha.sees u2 _ hu2]; rfl
  simp [results, hres, he, he2, he3, asAddr, this]
 have hq : Post C.Γ0 Δ C.w0 w := (hp.perm (pull_perm hpl)).drop
 rcases hex with rfl | rfl
 · exact ⟨ha.defers.trans hds, _, hr, _, Δ, rfl, h, hq⟩
 · exact ⟨ha.defers.trans hds, _, hr, _, Δ, rfl, h, hq⟩
def okS (s : List Nat) : Prop := s.length ≤ 9223372036854775806 ∧ ∀ x ∈ s, x < 256
theorem okS.drop {s : List Nat} (h : okS s) (n : Nat) : okS (s.drop n) := ⟨by rw [List.length_drop]; have := h.1; omega, fun x hx => h.2 x (List.mem_of_mem_drop hx)⟩
theorem okS.rdU {s : List Nat} (h : okS s) (e : Int) : okS (rdU s e).2.1 := by unfold Go.Proofs.YtllalpnmagpkfaaGreatDoor.rdU; split; exact h; split; exact h; exact h.drop _
theorem okS.rdI {s : List Nat} (h : okS s) (e : Int) : okS (rdI s e).2.1 := by unfold Go.Proofs.YtllalpnmagpkfaaGreatDoor.rdI; split; exact h; split; exact h; exact h.drop _
theorem okS.rdS {s : List Nat} (h : okS s) (e lo hi : Int) : okS (rdS s e lo hi).2.1 := by unfold Go.Proofs.YtllalpnmagpkfaaGreatDoor.rdS; split; exact h; split; exact h; split; exact h; exact h.drop _
theorem okS.rdB {s : List Nat} (h : okS s) (e : Int) : okS (rdB s e).2.1 := by unfold Go.Proofs.YtllalpnmagpkfaaGreatDoor.rdB; split; exact h; split; exact h; exact h.drop _
theorem rdU_le (s : List Nat) (e : Int) : (rdU s e).1 < 18446744073709551616 := by unfold rdU; split; exact Nat.zero_lt_succ _; split; exact Nat.zero_lt_succ _; exact (uV_lt s).1
theorem rdU_len (s : List Nat) (e : Int) : (rdU s e).2.1.length ≤ s.length := by unfold rdU; split; exact Nat.le_refl _; split; exact Nat.le_refl _; rw [List.length_drop]; omega
theorem rdI_len (s : List Nat) (e : Int) : (rdI s e).2.1.length ≤ s.length := by unfold rdI; split; exact Nat.le_refl _; split; exact Nat.le_refl _; rw [List.length_drop]; omega
theorem rdS_len (s : List Nat) (e lo hi : Int) : (rdS s e lo hi).2.1.length ≤ s.length := by unfold rdS; split; exact Nat.le_refl _; split; exact Nat.le_refl _; split; exact Nat.le_refl _; rw [List.length_drop]; omega
theorem rdB_len (s : List Nat) (e : Int) : (rdB s e).2.1.length ≤ s.length := by unfold rdB; split; exact Nat.le_refl _; split; exact Nat.le_refl _; rw [List.length_drop]; omega
theorem kN_len (s : List Nat) : (kN s).2.1.length ≤ s.length := Nat.le_trans (rdI_len _ _) (Nat.le_trans (rdS_len _ _ _ _) (Nat.le_trans (rdS_len _ _ _ _) (rdB_len _ _)))
theorem hd3_len (p : List Nat) : (hd3 p).2.1.length ≤ p.length := Nat.le_trans (rdU_len _ _) (Nat.le_trans (rdU_len _ _) (rdU_len _ _))
theorem read_fn (A : Option Addr) (q : Nat) (p : List Nat) (hl : p.length ≤ 150000000000000) (hok : okS p) :
    Does Tryz.prog 33 [.slice A p.length q] [ros encY A p] (fun r Γ' => ∃ (B : Option Addr) (q' : Nat), r = .tuple #[.agg #[nv ((readV p).1.1), nv ((readV p).1.2.1), .slice B (readV p).1.2.2.length q'], nv ((readV p).2.1), .int .i64 (readV p).2.2] ∧ Γ' = [rows Ins.cells 109 4 B q' (readV p).1.2.2]) := by
 refine Does.enter Tryz.func33 rfl Tryz.ntmps33 rfl (fun w0 => ?_)
 refine To.s (To.g (To.alloc rfl rfl rfl rfl z42 (fun b2 => ?_)))
 refine To.a ?_
 refine To.a (To.n (To.t (To.s ?_)))
 refine To.dup 1 rfl rfl (To.g (To.m ?_))
 refine To.cl [0] rfl rfl rfl (Ent.fn rfl rfl ca77) rfl (new_fn A q p hl) ?_
 rintro _ _ ⟨br, B0, q0, rfl, rfl, hc0⟩
 refine To.a (To.n (To.t (To.s (To.g ?_))))
 refine To.m ?_
 refine To.cl [0, 0] rfl rfl rfl (Ent.fn rfl rfl ca78) rfl (rdU_fn br B0 q0 p 0 hok.1 hok.2 hc0) ?_
 rintro _ _ ⟨Br, qr, rfl, rfl, hr⟩
 refine To.m ?_
 refine To.cl [0, 0] rfl rfl rfl (Ent.fn rfl rfl ca78) rfl (rdU_fn br Br qr ((rdU p 0).2.1) ((rdU p 0).2.2) (okS.rdU hok 0).1 (okS.rdU hok 0).2 hr) ?_
 rintro _ _ ⟨Br_2, qr_2, rfl, rfl, hr_2⟩
 refine To.m ?_
 refine To.cl [0, 0] rfl rfl rfl (Ent.fn rfl rfl ca78) rfl (rdU_fn br Br_2 qr_2 ((rdU ((rdU p 0).2.1) ((rdU p 0).2.2)).2.1) ((rdU ((rdU p 0).2.1) ((rdU p 0).2.2)).2.2) (okS.rdU (okS.rdU hok 0) ((rdU p 0).2.2)).1 (okS.rdU (okS.rdU hok 0) ((rdU p 0).2.2)).2 hr_2) ?_
 rintro _ _ ⟨Br_3, qr_3, rfl, rfl, hr_3⟩
 refine To.a ?_
 refine To.a ?_
 refine To.a (To.n (To.t (To.s (To.s (To.g ?_)))))
 refine To.m ?_
 refine To.cl [0] rfl rfl rfl (Ent.fn rfl rfl ca79) rfl (err_fn br Br_3 ((rdU ((rdU ((rdU p 0).2.1) ((rdU p 0).2.2)).2.1) ((rdU ((rdU p 0).2.1) ((rdU p 0).2.2)).2.2)).2.1.length) qr_3 ((rdU ((rdU ((rdU p 0).2.1) ((rdU p 0).2.2)).2.1) ((rdU ((rdU p 0).2.1) ((rdU p 0).2.2)).2.2)).2.2)) ?_
 rintro _ _ ⟨rfl, rfl⟩
 refine To.a (To.n (To.t (To.s (To.g ?_))))
 refine To.m ?_
 refine To.ne ?_
 refine To.n (To.t (To.cp rfl (fun c26 => ?_) (fun c26 => ?_)))
 refine To.s (To.g (To.r (Rd.build (vs := []) (cells := [.int .i64 0, .int .i64 0, .slice none 0 0]) rfl rfl rfl (by kernel_rfl)) ?_))
 refine To.m ?_
 refine To.u (Up.storeS (i := 2) rfl rfl rfl r42 rfl rfl rfl (bta rfl)) ?_
 refine To.a ?_
 refine To.a (To.n (To.t (To.rt (To.tr ?_))))
 refine To.nilRow (Ins.cells) 109 4 (To.endCTT [0] rfl (.inl rfl) Tryz.results33 rfl (i := 3) rfl r42 rfl rfl rfl ?_)
 have hh := (head_eq p).2 c26
 have hR : readV p = ((0, 0, []), 0, 6) := by rw [readV, hh.1]
 rw [hR]
 exact ⟨none, 0, by rw [show ((rdU ((rdU ((rdU p 0).2.1) ((rdU p 0).2.2)).2.1) ((rdU ((rdU p 0).2.1) ((rdU p 0).2.2)).2.2)).2.2) = 6 from hh.2]; rfl, rfl⟩
 refine To.sp (To.t (To.s (To.s ?_)))
 obtain ⟨v1, hv1⟩ : ∃ z0, z0 = (rdU p 0).1 := ⟨_, rfl⟩
 rw [← hv1]
 obtain ⟨v2, hv2⟩ : ∃ z0, z0 = (rdU ((rdU p 0).2.1) ((rdU p 0).2.2)).1 := ⟨_, rfl⟩
 rw [← hv2]
 obtain ⟨v3, hv3⟩ : ∃ z0, z0 = (rdU ((rdU ((rdU p 0).2.1) ((rdU p 0).2.2)).2.1) ((rdU ((rdU p 0).2.1) ((rdU p 0).2.2)).2.2)).1 := ⟨_, rfl⟩
 rw [← hv3]
 have hv1b : v1 < 18446744073709551616 := by rw [hv1]; exact rdU_le _ _
 have hv2b : v2 < 18446744073709551616 := by rw [hv2]; exact rdU_le _ _
 have hv3b : v3 < 18446744073709551616 := by rw [hv3]; exact rdU_le _ _
 have hee := Decidable.not_not.1 c26
 obtain ⟨e0, he0⟩ : ∃ z0, z0 = (rdU ((rdU ((rdU p 0).2.1) ((rdU p 0).2.2)).2.1) ((rdU ((rdU p 0).2.1) ((rdU p 0).2.2)).2.2)).2.2 := ⟨_, rfl⟩
 rw [← he0]
 have hz0 : e0 = 0 := by rw [he0]; exact hee
 clear he0
 subst hz0
 obtain ⟨s0, hs0⟩ : ∃ z0, z0 = (rdU ((rdU ((rdU p 0).2.1) ((rdU p 0).2.2)).2.1) ((rdU ((rdU p 0).2.1) ((rdU p 0).2.2)).2.2)).2.1 := ⟨_, rfl⟩
 rw [← hs0]
 have hok0 : okS s0 := by rw [hs0]; exact (okS.rdU (okS.rdU (okS.rdU hok 0) ((rdU p 0).2.2)) ((rdU ((rdU p 0).2.1) ((rdU p 0).2.2)).2.2))
 have hcc : s0.length ≤ qr_3 := by rw [hs0]; exact hr_3
 have hs0p : s0.length ≤ p.length := by rw [hs0]; exact hd3_len p
 have hH : headV p = some (v1, v2, v3, s0) := by rw [hv1, hv2, hv3, hs0]; exact (head_eq p).1 hee
 refine To.g (To.meet (T := Bool) (fun t => ([(0, .slice A p.length q), (2, pv b2), (5, pv br), (6, .int .u64 ((v1 : Nat) : Int)), (7, .int .u64 ((v2 : Nat) : Int)), (8, .int .u64 ((v3 : Nat) : Int)), (38, .bool t)], [box br [.slice Br_3 s0.length qr_3, .int .i64 0] 305, ros encY Br_3 s0, box b2 [.int .i64 0, .int .i64 0, .slice none 0 0] 42, ros encY A p])) (fun t => t = (((decide (255 < ((v1 : Nat) : Int))) || decide (255 < ((v2 : Nat) : Int))) || decide (4000 < ((v3 : Nat) : Int)))) ?_ (fun t ht => ?_))
 refine To.m ?_
 refine To.gt ?_
 refine To.rdP rfl rfl rfl (Rd.move rfl rfl) (fun g31 => ?_) (fun g31 => ?_)
 refine To.k ?_
 refine To.k ?_
 refine To.pT ?_
 refine To.m ?_
 refine To.k ?_
 refine To.k ?_
 refine To.pT ?_
 refine To.n (To.t (To.only [0, 0, 0, 0] rfl (To.he true (by first | (simp [g31]; done) | (simp [g31]; omega)) ⟨rfl, rfl, rfl, rfl, rfl, rfl, rfl, trivial⟩ rfl)))
 refine To.m ?_
 refine To.gt ?_
 refine To.pF ?_
 refine To.rdP rfl rfl rfl (Rd.move rfl rfl) (fun g35 => ?_) (fun g35 => ?_)
 refine To.k ?_
 refine To.k ?_
 refine To.pT ?_
 refine To.n (To.t (To.only [0, 0, 0, 0] rfl (To.he true (by first | (simp [g31, g35]; done) | (simp [g31, g35]; omega)) ⟨rfl, rfl, rfl, rfl, rfl, rfl, rfl, trivial⟩ rfl)))
 refine To.m ?_
 refine To.gt ?_
 refine To.pF ?_
 refine To.n (To.t (To.only [0, 0, 0, 0] rfl (To.he (decide (4000 < ((v3 : Nat) : Int))) (by first | (simp [g31, g35]; done) | (simp [g31, g35]; omega)) ⟨rfl, rfl, rfl, rfl, rfl, rfl, rfl, trivial⟩ rfl)))
 subst ht
 dsimp only
 refine To.cond rfl (fun c38 => ?_) (fun c38 => ?_)
 refine To.s (To.g (To.r (Rd.build (vs := []) (cells := [.int .i64 0, .int .i64 0, .slice none 0 0]) rfl rfl rfl (by kernel_rfl)) ?_))
 refine To.u (Up.storeS (i := 2) rfl rfl rfl r42 rfl rfl rfl (bta rfl)) ?_
 refine To.a ?_
 refine To.a (To.n (To.t (To.rt (To.tr ?_))))
 refine To.nilRow (Ins.cells) 109 4 (To.endCTT [0] rfl (.inl rfl) Tryz.results33 rfl (i := 3) rfl r42 rfl rfl rfl ?_)
 simp only [Bool.or_eq_false_iff, Bool.or_eq_true, decide_eq_true_eq, decide_eq_false_iff_not] at c38
 have hR : readV p = ((0, 0, []), 0, 3) := by rw [readV, hH]; exact if_pos (by omega)
 rw [hR]
 exact ⟨none, 0, rfl, rfl⟩
 simp only [Bool.or_eq_false_iff, Bool.or_eq_true, decide_eq_true_eq, decide_eq_false_iff_not] at c38
 refine To.sp (To.t (To.s (To.g (To.m ?_))))
 refine To.r (Rd.conv rfl rfl Tryz.underlying227 Tryz.underlying3 (IntWalk.i64_in _ (by omega))) ?_
 refine To.m ?_
 refine To.r (Rd.conv rfl rfl Tryz.underlying227 Tryz.underlying3 (IntWalk.i64_in _ (by omega))) ?_
 refine To.r (Rd.build (vs := [(0, nv v1), (1, nv v2)]) (cells := [nv v1, nv v2, .slice none 0 0]) rfl rfl rfl (by kernel_rfl)) ?_
 refine To.alloc rfl rfl rfl rfl z42 (fun b10 => ?_)
 refine To.u (Up.storeS (i := 0) rfl rfl rfl r42 rfl rfl rfl (bta rfl)) ?_
 refine To.n (To.t (To.s (To.s (To.g (To.m ?_)))))
 refine To.m (To.n (To.t (To.b ?_)))
 refine To.nilRow (Ins.cells) 109 4 (To.only [4, 2, 1, 1, 1, 0] rfl (To.loopS (fun mz ρ Γ => ∃ (Bk : Option Addr) (qk : Nat) (s : List Nat) (Ao : Option Addr) (qo : Nat) (O : List Ins) (k : Nat), ρ = [(0, .slice A p.length q), (2, pv b2), (5, pv br), (10, pv b10), (45, .int .u64 ((v3 : Nat) : Int)), (46, .int .u64 ((k : Nat) : Int))] ∧ Γ = [box b2 [.int .i64 0, .int .i64 0, .slice none 0 0] 42, box br [.slice Bk s.length qk, .int .i64 0] 305, box b10 [nv v1, nv v2, .slice Ao O.length qo] 42, ros encY Bk s, ros encY A p, rows Ins.cells 109 4 Ao qo O] ∧ mz = v3 - k ∧ (k ≤ v3) ∧ (okS s) ∧ (s.length ≤ qk) ∧ (s.length ≤ p.length) ∧ (O.length ≤ k) ∧ (instrsV v3 s0 = (instrsV (v3 - k) s).map fun y => (O ++ y.1, y.2))) (v3 - 0) ⟨⟨Br_3, qr_3, s0, none, 0, ([] : List Ins), 0, rfl, rfl, rfl, (Nat.zero_le _), hok0, hcc, hs0p, (Nat.le_refl _), (by rw [Nat.sub_zero]; cases instrsV v3 s0 <;> rfl)⟩, ⟨rfl, rfl, rfl, rfl, rfl, rfl, trivial⟩⟩ ?_))
 rintro mz _ _ ⟨Bk, qk, s, Ao, qo, O, k, rfl, rfl, rfl, hk, hoks, hcs, hsp, hOl, hI⟩
 refine To.s (To.g (To.lt ?_))
 refine To.n (To.t (To.s (To.cp rfl (fun c47 => ?_) (fun c47 => ?_))))
 refine To.sp (To.t (To.s (To.b (To.s (To.g (To.m ?_))))))
 refine To.cl [1, 2] rfl rfl rfl (Ent.fn rfl rfl ca80) rfl (rdB_fn br Bk qk s 0 hoks.1 hoks.2 hcs) ?_
 rintro _ _ ⟨Br_4, qr_4, rfl, rfl, hr_4⟩
 refine To.a (To.n (To.t (To.s (To.g ?_))))
 refine To.m ?_
 refine To.cl [0, 0] rfl rfl rfl (Ent.fn rfl rfl ca81) rfl (rdS_fn br Br_4 qr_4 ((rdB s 0).2.1) ((rdB s 0).2.2) LO HI (okS.rdB hoks 0).1 (okS.rdB hoks 0).2 hr_4) ?_
 rintro _ _ ⟨Br_5, qr_5, rfl, rfl, hr_5⟩
 refine To.m ?_
 refine To.cl [0, 0] rfl rfl rfl (Ent.fn rfl rfl ca81) rfl (rdS_fn br Br_5 qr_5 ((rdS ((rdB s 0).2.1) ((rdB s 0).2.2) LO HI).2.1) ((rdS ((rdB s 0).2.1) ((rdB s 0).2.2) LO HI).2.2) LO HI (okS.rdS (okS.rdB hoks 0) ((rdB s 0).2.2) LO HI).1 (okS.rdS (okS.rdB hoks 0) ((rdB s 0).2.2) LO HI).2 hr_5) ?_
 rintro _ _ ⟨Br_6, qr_6, rfl, rfl, hr_6⟩
 refine To.a ?_
 refine To.a (To.n (To.t (To.s (To.g ?_))))
 refine To.m ?_
 refine To.m ?_
 refine To.m ?_
 refine To.m ?_
 refine To.cl [0, 0] rfl rfl rfl (Ent.fn rfl rfl ca82) rfl (rdI_fn br Br_6 qr_6 ((rdS ((rdS ((rdB s 0).2.1) ((rdB s 0).2.2) LO HI).2.1) ((rdS ((rdB s 0).2.1) ((rdB s 0).2.2) LO HI).2.2) LO HI).2.1) ((rdS ((rdS ((rdB s 0).2.1) ((rdB s 0).2.2) LO HI).2.1) ((rdS ((rdB s 0).2.1) ((rdB s 0).2.2) LO HI).2.2) LO HI).2.2) (okS.rdS (okS.rdS (okS.rdB hoks 0) ((rdB s 0).2.2) LO HI) ((rdS ((rdB s 0).2.1) ((rdB s 0).2.2) LO HI).2.2) LO HI).1 (okS.rdS (okS.rdS (okS.rdB hoks 0) ((rdB s 0).2.2) LO HI) ((rdS ((rdB s 0).2.1) ((rdB s 0).2.2) LO HI).2.2) LO HI).2 hr_6) ?_
 rintro _ _ ⟨Br_7, qr_7, rfl, rfl, hr_7⟩
 refine To.r (Rd.build (vs := [(0, .int .u8 (((rdB s 0).1 : Nat) : Int)), (1, .int .i64 ((rdS ((rdB s 0).2.1) ((rdB s 0).2.2) LO HI).1)), (2, .int .i64 ((rdS ((rdS ((rdB s 0).2.1) ((rdB s 0).2.2) LO HI).2.1) ((rdS ((rdB s 0).2.1) ((rdB s 0).2.2) LO HI).2.2) LO HI).1)), (3, .int .i64 ((rdI ((rdS ((rdS ((rdB s 0).2.1) ((rdB s 0).2.2) LO HI).2.1) ((rdS ((rdB s 0).2.1) ((rdB s 0).2.2) LO HI).2.2) LO HI).2.1) ((rdS ((rdS ((rdB s 0).2.1) ((rdB s 0).2.2) LO HI).2.1) ((rdS ((rdB s 0).2.1) ((rdB s 0).2.2) LO HI).2.2) LO HI).2.2)).1))]) (cells := [.int .u8 (((rdB s 0).1 : Nat) : Int), .int .i64 ((rdS ((rdB s 0).2.1) ((rdB s 0).2.2) LO HI).1), .int .i64 ((rdS ((rdS ((rdB s 0).2.1) ((rdB s 0).2.2) LO HI).2.1) ((rdS ((rdB s 0).2.1) ((rdB s 0).2.2) LO HI).2.2) LO HI).1), .int .i64 ((rdI ((rdS ((rdS ((rdB s 0).2.1) ((rdB s 0).2.2) LO HI).2.1) ((rdS ((rdB s 0).2.1) ((rdB s 0).2.2) LO HI).2.2) LO HI).2.1) ((rdS ((rdS ((rdB s 0).2.1) ((rdB s 0).2.2) LO HI).2.1) ((rdS ((rdB s 0).2.1) ((rdB s 0).2.2) LO HI).2.2) LO HI).2.2)).1)]) rfl rfl rfl (by kernel_rfl)) ?_
 refine To.alloc rfl rfl rfl rfl z109 (fun b14 => ?_)
 refine To.u (Up.storeS (i := 0) rfl rfl rfl r109 rfl rfl rfl (bta rfl)) ?_
 refine To.n (To.t (To.s (To.s (To.g (To.meet (T := Bool) (fun t => ([(0, .slice A p.length q), (2, pv b2), (5, pv br), (10, pv b10), (45, .int .u64 ((v3 : Nat) : Int)), (46, .int .u64 ((k : Nat) : Int)), (11, .int .u8 (((rdB s 0).1 : Nat) : Int)), (12, .int .i64 ((rdS ((rdB s 0).2.1) ((rdB s 0).2.2) LO HI).1)), (13, .int .i64 ((rdS ((rdS ((rdB s 0).2.1) ((rdB s 0).2.2) LO HI).2.1) ((rdS ((rdB s 0).2.1) ((rdB s 0).2.2) LO HI).2.2) LO HI).1)), (14, pv b14), (70, .bool t)], [box b14 [.int .u8 (((rdB s 0).1 : Nat) : Int), .int .i64 ((rdS ((rdB s 0).2.1) ((rdB s 0).2.2) LO HI).1), .int .i64 ((rdS ((rdS ((rdB s 0).2.1) ((rdB s 0).2.2) LO HI).2.1) ((rdS ((rdB s 0).2.1) ((rdB s 0).2.2) LO HI).2.2) LO HI).1), .int .i64 ((rdI ((rdS ((rdS ((rdB s 0).2.1) ((rdB s 0).2.2) LO HI).2.1) ((rdS ((rdB s 0).2.1) ((rdB s 0).2.2) LO HI).2.2) LO HI).2.1) ((rdS ((rdS ((rdB s 0).2.1) ((rdB s 0).2.2) LO HI).2.1) ((rdS ((rdB s 0).2.1) ((rdB s 0).2.2) LO HI).2.2) LO HI).2.2)).1)] 109, box br [.slice Br_7 ((rdI ((rdS ((rdS ((rdB s 0).2.1) ((rdB s 0).2.2) LO HI).2.1) ((rdS ((rdB s 0).2.1) ((rdB s 0).2.2) LO HI).2.2) LO HI).2.1) ((rdS ((rdS ((rdB s 0).2.1) ((rdB s 0).2.2) LO HI).2.1) ((rdS ((rdB s 0).2.1) ((rdB s 0).2.2) LO HI).2.2) LO HI).2.2)).2.1.length) qr_7, .int .i64 ((rdI ((rdS ((rdS ((rdB s 0).2.1) ((rdB s 0).2.2) LO HI).2.1) ((rdS ((rdB s 0).2.1) ((rdB s 0).2.2) LO HI).2.2) LO HI).2.1) ((rdS ((rdS ((rdB s 0).2.1) ((rdB s 0).2.2) LO HI).2.1) ((rdS ((rdB s 0).2.1) ((rdB s 0).2.2) LO HI).2.2) LO HI).2.2)).2.2)] 305, ros encY Br_7 ((rdI ((rdS ((rdS ((rdB s 0).2.1) ((rdB s 0).2.2) LO HI).2.1) ((rdS ((rdB s 0).2.1) ((rdB s 0).2.2) LO HI).2.2) LO HI).2.1) ((rdS ((rdS ((rdB s 0).2.1) ((rdB s 0).2.2) LO HI).2.1) ((rdS ((rdB s 0).2.1) ((rdB s 0).2.2) LO HI).2.2) LO HI).2.2)).2.1), box b2 [.int .i64 0, .int .i64 0, .slice none 0 0] 42, box b10 [nv v1, nv v2, .slice Ao O.length qo] 42, ros encY A p, rows Ins.cells 109 4 Ao qo O])) (fun t => t = (((decide ((rdI ((rdS ((rdS ((rdB s 0).2.1) ((rdB s 0).2.2) LO HI).2.1) ((rdS ((rdB s 0).2.1) ((rdB s 0).2.2) LO HI).2.2) LO HI).2.1) ((rdS ((rdS ((rdB s 0).2.1) ((rdB s 0).2.2) LO HI).2.1) ((rdS ((rdB s 0).2.1) ((rdB s 0).2.2) LO HI).2.2) LO HI).2.2)).2.2 ≠ 0)) || decide ((((rdB s 0).1 : Nat) : Int) < 1)) || decide (34 < (((rdB s 0).1 : Nat) : Int)))) ?_ (fun t ht => ?_))))))
 refine To.m ?_
 refine To.cl [1] rfl rfl rfl (Ent.fn rfl rfl ca79) rfl (err_fn br Br_7 ((rdI ((rdS ((rdS ((rdB s 0).2.1) ((rdB s 0).2.2) LO HI).2.1) ((rdS ((rdB s 0).2.1) ((rdB s 0).2.2) LO HI).2.2) LO HI).2.1) ((rdS ((rdS ((rdB s 0).2.1) ((rdB s 0).2.2) LO HI).2.1) ((rdS ((rdB s 0).2.1) ((rdB s 0).2.2) LO HI).2.2) LO HI).2.2)).2.1.length) qr_7 ((rdI ((rdS ((rdS ((rdB s 0).2.1) ((rdB s 0).2.2) LO HI).2.1) ((rdS ((rdB s 0).2.1) ((rdB s 0).2.2) LO HI).2.2) LO HI).2.1) ((rdS ((rdS ((rdB s 0).2.1) ((rdB s 0).2.2) LO HI).2.1) ((rdS ((rdB s 0).2.1) ((rdB s 0).2.2) LO HI).2.2) LO HI).2.2)).2.2)) ?_
 rintro _ _ ⟨rfl, rfl⟩
 refine To.ne ?_
 refine To.rdP rfl rfl rfl (Rd.move rfl rfl) (fun g63 => ?_) (fun g63 => ?_)
 refine To.k ?_
 refine To.k ?_
 refine To.pT ?_
 refine To.m ?_
 refine To.k ?_
 refine To.k ?_
 refine To.pT ?_
 refine To.n (To.t (To.only [1, 0, 0, 0, 0, 0, 0] rfl (To.he true (by first | (simp [g63]; done) | (simp [g63]; omega)) ⟨rfl, rfl, rfl, rfl, rfl, rfl, rfl, rfl, rfl, rfl, rfl, trivial⟩ rfl)))
 refine To.m ?_
 refine To.lt ?_
 refine To.pF ?_
 refine To.rdP rfl rfl rfl (Rd.move rfl rfl) (fun g67 => ?_) (fun g67 => ?_)
 refine To.k ?_
 refine To.k ?_
 refine To.pT ?_
 refine To.n (To.t (To.only [1, 0, 0, 0, 0, 0, 0] rfl (To.he true (by first | (simp [g63, g67]; done) | (simp [g63, g67]; omega)) ⟨rfl, rfl, rfl, rfl, rfl, rfl, rfl, rfl, rfl, rfl, rfl, trivial⟩ rfl)))
 refine To.m ?_
 refine To.gt ?_
 refine To.pF ?_
 refine To.n (To.t (To.only [1, 0, 0, 0, 0, 0, 0] rfl (To.he (decide (34 < (((rdB s 0).1 : Nat) : Int))) (by first | (simp [g63, g67]; done) | (simp [g63, g67]; omega)) ⟨rfl, rfl, rfl, rfl, rfl, rfl, rfl, rfl, rfl, rfl, rfl, trivial⟩ rfl)))
 subst ht
 dsimp only
 refine To.cond rfl (fun c70 => ?_) (fun c70 => ?_)
 simp only [Bool.or_eq_false_iff, Bool.or_eq_true, decide_eq_true_eq, decide_eq_false_iff_not] at c70
 have hno : instrV s = none := by rw [instr_eq, if_neg (by rintro ⟨h1, h2, h3⟩; rcases c70 with (h | h) | h; exact h h1; exact absurd (show (((kB s).1 : Nat) : Int) < 1 from h) (by omega); exact absurd (show 34 < (((kB s).1 : Nat) : Int) from h) (by omega))]
 refine To.s (To.g (To.r (Rd.build (vs := []) (cells := [.int .i64 0, .int .i64 0, .slice none 0 0]) rfl rfl rfl (by kernel_rfl)) ?_))
 refine To.u (Up.storeS (i := 3) rfl rfl rfl r42 rfl rfl rfl (bta rfl)) ?_
 refine To.a ?_
 refine To.a (To.n (To.t (To.rt (To.tr (To.br (To.tr (To.tr (To.br (To.tr ?_)))))))))
 refine To.nilRow (Ins.cells) 109 4 (To.endCTT [0] rfl (.inl rfl) Tryz.results33 rfl (i := 4) rfl r42 rfl rfl rfl ?_)
 have hR : readV p = ((0, 0, []), 0, 6) := by
  rw [readV, hH]; show (if _ then _ else _) = _
  rw [if_neg (by omega), hI, show v3 - k = (v3 - (k + 1)) + 1 from by omega, instrs_bad hno]; rfl
 rw [hR]
 exact ⟨none, 0, rfl, rfl⟩
 simp only [Bool.or_eq_false_iff, Bool.or_eq_true, decide_eq_true_eq, decide_eq_false_iff_not] at c70
 have hie := Decidable.not_not.1 c70.1.1
 have hix : instrV s = some ((⟨(kB s).1, (kA s).1, (kA2 s).1, (kN s).1⟩ : Ins), (kN s).2.1) := by rw [instr_eq, if_pos ⟨hie, by have h : ¬ (((kB s).1 : Nat) : Int) < 1 := c70.1.2; omega, by have h : ¬ 34 < (((kB s).1 : Nat) : Int) := c70.2; omega⟩]
 refine To.sp (To.t (To.g (To.f fl42_2 ?_)))
 refine To.lo 4 c40 ?_
 refine To.r (Rd.lS (i := 0) rfl rfl r109 rfl box_whole rfl) ?_
 refine To.mk rfl rfl rfl (Mk.sN (us := [.int .u8 (((rdB s 0).1 : Nat) : Int), .int .i64 ((rdS ((rdB s 0).2.1) ((rdB s 0).2.2) LO HI).1), .int .i64 ((rdS ((rdS ((rdB s 0).2.1) ((rdB s 0).2.2) LO HI).2.1) ((rdS ((rdB s 0).2.1) ((rdB s 0).2.2) LO HI).2.2) LO HI).1), .int .i64 ((rdI ((rdS ((rdS ((rdB s 0).2.1) ((rdB s 0).2.2) LO HI).2.1) ((rdS ((rdB s 0).2.1) ((rdB s 0).2.2) LO HI).2.2) LO HI).2.1) ((rdS ((rdS ((rdB s 0).2.1) ((rdB s 0).2.2) LO HI).2.1) ((rdS ((rdB s 0).2.1) ((rdB s 0).2.2) LO HI).2.2) LO HI).2.2)).1)]) rfl s40 rfl rfl rfl rfl rfl rfl) ?_
 rintro _ _ ⟨b75, rfl, rfl⟩
 refine To.ge rfl rfl rfl (Ge.append1 encIn (i := 7) (j := 0) (el := (⟨(rdB s 0).1, (rdS ((rdB s 0).2.1) ((rdB s 0).2.2) LO HI).1, (rdS ((rdS ((rdB s 0).2.1) ((rdB s 0).2.2) LO HI).2.1) ((rdS ((rdB s 0).2.1) ((rdB s 0).2.2) LO HI).2.2) LO HI).1, (rdI ((rdS ((rdS ((rdB s 0).2.1) ((rdB s 0).2.2) LO HI).2.1) ((rdS ((rdB s 0).2.1) ((rdB s 0).2.2) LO HI).2.2) LO HI).2.1) ((rdS ((rdS ((rdB s 0).2.1) ((rdB s 0).2.2) LO HI).2.1) ((rdS ((rdB s 0).2.1) ((rdB s 0).2.2) LO HI).2.2) LO HI).2.2)).1⟩ : Ins)) rfl s40 rfl rfl rfl rfl rfl (by first | omega | (simp; done) | (simp; omega)) (by first | omega | (simp; done) | (simp; omega))) ?_
 rintro _ _ ⟨A76, q76, rfl, rfl⟩
 refine To.f fl42_2 ?_
 refine To.u (Up.store (i := 5) rfl rfl rfl c40 rfl rfl (bt1 rfl)) ?_
 refine To.n (To.bn (To.t (To.g (To.r (Rd.as (v' := .int .u64 ((k + 1 : Nat) : Int)) (congrArg (fun n : Nat => Value.int .u64 (n : Int)) (Nat.mod_eq_of_lt (by omega))) (Rd.addU (a := k) (b := 1) rfl rfl rfl)) ?_))))
 refine To.m (To.n (To.t ?_))
 obtain ⟨e0, he0⟩ : ∃ z0, z0 = (rdI ((rdS ((rdS ((rdB s 0).2.1) ((rdB s 0).2.2) LO HI).2.1) ((rdS ((rdB s 0).2.1) ((rdB s 0).2.2) LO HI).2.2) LO HI).2.1) ((rdS ((rdS ((rdB s 0).2.1) ((rdB s 0).2.2) LO HI).2.1) ((rdS ((rdB s 0).2.1) ((rdB s 0).2.2) LO HI).2.2) LO HI).2.2)).2.2 := ⟨_, rfl⟩
 rw [← he0]
 have hz0 : e0 = 0 := by rw [he0]; exact hie
 clear he0
 subst hz0
 refine To.only [4, 2, 3, 2, 2, 2] rfl (To.agS (v3 - (k + 1)) (by omega) ⟨⟨Br_7, qr_7, (rdI ((rdS ((rdS ((rdB s 0).2.1) ((rdB s 0).2.2) LO HI).2.1) ((rdS ((rdB s 0).2.1) ((rdB s 0).2.2) LO HI).2.2) LO HI).2.1) ((rdS ((rdS ((rdB s 0).2.1) ((rdB s 0).2.2) LO HI).2.1) ((rdS ((rdB s 0).2.1) ((rdB s 0).2.2) LO HI).2.2) LO HI).2.2)).2.1, A76, q76, (O ++ [(⟨(rdB s 0).1, (rdS ((rdB s 0).2.1) ((rdB s 0).2.2) LO HI).1, (rdS ((rdS ((rdB s 0).2.1) ((rdB s 0).2.2) LO HI).2.1) ((rdS ((rdB s 0).2.1) ((rdB s 0).2.2) LO HI).2.2) LO HI).1, (rdI ((rdS ((rdS ((rdB s 0).2.1) ((rdB s 0).2.2) LO HI).2.1) ((rdS ((rdB s 0).2.1) ((rdB s 0).2.2) LO HI).2.2) LO HI).2.1) ((rdS ((rdS ((rdB s 0).2.1) ((rdB s 0).2.2) LO HI).2.1) ((rdS ((rdB s 0).2.1) ((rdB s 0).2.2) LO HI).2.2) LO HI).2.2)).1⟩ : Ins)]), k + 1, rfl, rfl, rfl, (by omega), (okS.rdI (okS.rdS (okS.rdS (okS.rdB hoks 0) ((rdB s 0).2.2) LO HI) ((rdS ((rdB s 0).2.1) ((rdB s 0).2.2) LO HI).2.2) LO HI) ((rdS ((rdS ((rdB s 0).2.1) ((rdB s 0).2.2) LO HI).2.1) ((rdS ((rdB s 0).2.1) ((rdB s 0).2.2) LO HI).2.2) LO HI).2.2)), hr_7, (Nat.le_trans (kN_len s) hsp), (by rw [lap]; simp only [lc1, ln0]; omega), (by rw [hI, show v3 - k = (v3 - (k + 1)) + 1 from by omega, instrs_step hix, acc_step]; rfl)⟩, ⟨rfl, rfl, rfl, rfl, rfl, rfl, trivial⟩⟩)
 refine To.ex (To.tx (To.tx (To.bx (To.t (To.s (To.flow [box b10 [nv v1, nv v2, .slice Ao O.length qo] 42] [⟨0, [], 0⟩, ⟨1, [], 0⟩, ⟨2, [], 0⟩, ⟨3, [], 0⟩, ⟨4, [], 5⟩, ⟨5, [], 0⟩, ⟨6, [], 5⟩, ⟨7, [], 0⟩, ⟨8, [], 0⟩] mixed (by kernel_rfl) (ocs (oca 2 rfl) (ocn _)) (W.f rfl (Rd.lS (i := 0) rfl rfl r42 rfl box_whole rfl) ?_)))))))
 refine W.mo ?_
 refine W.f rfl (Rd.len rfl rfl Tryz.underlying22) ?_
 refine W.mo ?_
 refine W.call [1] rfl rfl rfl rfl (Ent.fn rfl rfl ca83) rfl (left_fn br Bk s.length qk 0) ?_
 rintro _ _ ⟨rfl, rfl⟩
 refine ⟨ocs (oca 2 rfl) (ocn _), ?_⟩
 refine W.f rfl (Rd.sub64 rfl rfl rfl (by omega)) ?_
 refine W.up rfl rfl rfl (Up.storeS (i := 1) rfl rfl rfl r42 rfl rfl rfl (bta rfl)) (ocs (oca 2 rfl) (ocn _)) ?_
 refine W.f rfl (Rd.assign rfl rfl) ?_
 refine W.f rfl (Rd.assign rfl rfl) ?_
 refine W.fin ?_
 refine To.t (To.rt (To.endCTT [5] rfl (.inl rfl) Tryz.results33 rfl (i := 1) rfl r42 rfl rfl rfl ?_))
 have hR : readV p = ((v1, v2, O), p.length - s.length, 0) := by
  rw [readV, hH]; show (if _ then _ else _) = _
  rw [if_neg (by omega), hI, show v3 - k = 0 from by omega]; simp [instrsV]
 rw [hR]
 have hz : Int.ofNat (p.length - s.length) = (p.length : Int) - (s.length : Int) := by show ((p.length - s.length : Nat) : Int) = _; omega
 refine ⟨_, _, ?_, rfl⟩
 show _ = Value.tuple #[_, .int .i64 (Int.ofNat (p.length - s.length)), _]
 rw [hz]
theorem headV_3 {p s s2 : List Nat} {a b : Nat} (h : natV p = some (a, s)) (h2 : natV s = some (b, s2)) (h3 : natV s2 = none) : headV p = none := by
 unfold headV; rw [h]; show (natV s).bind _ = _; rw [h2]; show (natV s2).map _ = _; rw [h3]; rfl
theorem headV_4 {p s s2 s3 : List Nat} {a b c : Nat} (h : natV p = some (a, s)) (h2 : natV s = some (b, s2)) (h3 : natV s2 = some (c, s3)) : headV p = some (a, b, c, s3) := by
 unfold headV; rw [h]; show (natV s).bind _ = _; rw [h2]; show (natV s2).map _ = _; rw [h3]; rfl
theorem readV_head {p : List Nat} (h : headV p = none) : readV p = ((0, 0, []), 0, 6) := by rw [readV, h]
theorem readV_bad {p s : List Nat} {a b n : Nat} (h : headV p = some (a, b, n, s)) (hl : ¬ (255 < a ∨ 255 < b ∨ 4000 < n)) (h2 : instrsV n s = none) : readV p = ((0, 0, []), 0, 6) := by
 rw [readV, h]; show (if _ then _ else _) = _; rw [if_neg hl, h2]
theorem readV_ok {p s r : List Nat} {a b n : Nat} {l : List Ins} (h : headV p = some (a, b, n, s)) (hl : ¬ (255 < a ∨ 255 < b ∨ 4000 < n)) (h2 : instrsV n s = some (l, r)) : readV p = ((a, b, l), p.length - r.length, 0) := by
 rw [readV, h]; show (if _ then _ else _) = _; rw [if_neg hl, h2]
theorem flatIn : FlatTy Tryz.prog 109 [.u8, .i64, .i64, .i64] := ⟨⟨_, Tryz.underlying109, by kernel_rfl⟩, by kernel_rfl, by kernel_rfl⟩
theorem same_fn (pr st : Int) (A1 A2 : Option Addr) (q1 q2 : Nat) (l : List Ins) (hl : l.length ≤ 1000000) :
    Does Tryz.prog 16 [.agg #[.int .i64 pr, .int .i64 st, .slice A1 l.length q1], .agg #[.int .i64 pr, .int .i64 st, .slice A2 l.length q2]] [ros Ins.cells A1 l, ros Ins.cells A2 l] (fun v _ => v = .bool true) := by
 refine Does.enter Tryz.func16 rfl Tryz.ntmps16 rfl (fun w0 => ?_)
 refine To.s (To.g (To.boxed rfl rfl rfl rfl rfl rfl (fun b2 => ?_)))
 refine To.boxed rfl rfl rfl rfl rfl rfl (fun b3 => ?_)
 refine To.a (To.n (To.t (To.s (To.s (To.g ?_)))))
 refine To.f fl42_0 ?_
 refine To.lo 1 c3 ?_
 refine To.f fl42_0 ?_
 refine To.lo 0 c3 ?_
 refine To.ne ?_
 refine To.rdP rfl rfl rfl (Rd.move rfl rfl) (fun g11 => ?_) (fun g11 => ?_)
 exact absurd rfl g11
 refine To.f fl42_1 ?_
 refine To.lo 1 c3 ?_
 refine To.f fl42_1 ?_
 refine To.lo 0 c3 ?_
 refine To.ne ?_
 refine To.pF ?_
 refine To.rdP rfl rfl rfl (Rd.move rfl rfl) (fun g18 => ?_) (fun g18 => ?_)
 exact absurd rfl g18
 refine To.f fl42_2 ?_
 refine To.lo 1 c40 ?_
 refine To.r (Rd.len rfl rfl Tryz.underlying40) ?_
 refine To.f fl42_2 ?_
 refine To.lo 0 c40 ?_
 refine To.r (Rd.len rfl rfl Tryz.underlying40) ?_
 refine To.ne ?_
 refine To.pF ?_
 refine To.n (To.t (To.cp rfl (fun c26 => ?_) (fun c26 => ?_)))
 exact absurd rfl c26
 refine To.sp (To.t (To.s (To.s (To.g (To.f fl42_2 ?_)))))
 refine To.lo 1 c40 ?_
 refine To.r (Rd.len rfl rfl Tryz.underlying40) ?_
 refine To.m (To.n (To.t (To.b ?_)))
 refine To.only [1, 0, 0, 0] rfl (To.loopS (fun mz ρ Γ => ∃ (i : Nat), ρ = [(2, pv b2), (3, pv b3), (29, nv l.length), (30, nv i)] ∧ Γ = [box b2 [.int .i64 pr, .int .i64 st, .slice A1 l.length q1] 42, box b3 [.int .i64 pr, .int .i64 st, .slice A2 l.length q2] 42, ros Ins.cells A1 l, ros Ins.cells A2 l] ∧ mz = l.length - i ∧ (i ≤ l.length)) (l.length - 0) ⟨⟨0, rfl, rfl, rfl, (Nat.zero_le _)⟩, ⟨rfl, rfl, rfl, rfl, trivial⟩⟩ ?_)
 rintro mz _ _ ⟨i, rfl, rfl, rfl, hi⟩
 refine To.s (To.g (To.lt ?_))
 refine To.n (To.t (To.s (To.cp rfl (fun c31 => ?_) (fun c31 => ?_))))
 obtain ⟨x, hx⟩ : ∃ z0, l[i]? = some z0 := ⟨l[i]'(by omega), gge _⟩
 refine To.sp (To.t (To.s (To.b (To.s (To.g (To.m ?_))))))
 refine To.a (To.n (To.t (To.s ?_)))
 refine To.flow [box b2 [.int .i64 pr, .int .i64 st, .slice A1 l.length q1] 42, box b3 [.int .i64 pr, .int .i64 st, .slice A2 l.length q2] 42, ros Ins.cells A1 l, ros Ins.cells A2 l] [⟨0, [], 0⟩, ⟨1, [], 0⟩, ⟨2, [], 0⟩, ⟨5, [], 0⟩, ⟨6, [], 0⟩, ⟨7, [], 0⟩, ⟨3, [], 1⟩, ⟨4, [], 0⟩, ⟨8, [], 1⟩, ⟨9, [], 0⟩, ⟨10, [], 0⟩] mixed (by kernel_rfl) (ocs (oca 0 rfl) (ocs (oca 1 rfl) (ocs (oca 2 rfl) (ocs (oca 3 rfl) (ocn _))))) (W.fi fl42_2 ?_)
 refine W.th 0 c40 ?_
 refine W.mo ?_
 refine W.fi fl42_2 ?_
 refine W.th 1 c40 ?_
 refine W.mo ?_
 refine W.r rfl (Rd.ixo encIn (i := 2) (j := i) rfl rfl rfl s40 rfl hx) ?_
 refine W.f rfl (Rd.lS (i := 2) rfl rfl r109 rfl (rsg encIn hx) (encIn.len _)) ?_
 refine W.r rfl (Rd.ixo encIn (i := 3) (j := i) rfl rfl rfl s40 rfl hx) ?_
 refine W.f rfl (Rd.lS (i := 3) rfl rfl r109 rfl (rsg encIn hx) (encIn.len _)) ?_
 refine W.f rfl (Rd.as (v' := .bool (false)) (congrArg Value.bool (decide_eq_false (fun h => h rfl))) (Rd.neqF (ks := [.u8, .i64, .i64, .i64]) (xs := [((x.op : Nat) : Int), x.a, x.b, x.n]) (ys := [((x.op : Nat) : Int), x.a, x.b, x.n]) flatIn rfl rfl rfl rfl rfl)) ?_
 refine W.fin ?_
 refine To.t (To.condF rfl (To.sp (To.bn (To.t (To.g (To.r (Rd.inc rfl rfl rfl (by omega)) ?_))))))
 refine To.m (To.n (To.t ?_))
 refine To.only [0, 0, 0, 0] rfl (To.agS (l.length - (i + 1)) (by omega) ⟨⟨i + 1, rfl, rfl, rfl, (by omega)⟩, ⟨rfl, rfl, rfl, rfl, trivial⟩⟩)
 refine To.ex (To.tx (To.tx (To.bx (To.t (To.s (To.g (To.a (To.n (To.t (To.rt ?_))))))))))
 refine To.only [] rfl (To.end1 (.inl rfl) Tryz.results16 rfl ?_)
 rfl
end Go.Proofs.YtllalpnmagpkfaaGreatDoor

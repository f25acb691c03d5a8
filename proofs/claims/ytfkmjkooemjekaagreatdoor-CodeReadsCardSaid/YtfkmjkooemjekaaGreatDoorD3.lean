/- The reader. Own text (walks printed by sx.py). -/
import Derived.Test.YtfkmjkooemjekaaGreatDoorL1
import Derived.Test.YtfkmjkooemjekaaGreatDoorD2
set_option linter.unusedVariables false
set_option linter.unusedSimpArgs false
namespace Go.Proofs.YtfkmjkooemjekaaGreatDoor
open Go.RowKit Go.Flow Go.Mem Go.Sep
theorem uGo_lt : ∀ (p : List Nat) (i v : Nat), i ≤ 9 → v < 2 ^ (7 * i) → ∀ a n, uGo i v p = some (a, n) → a < 18446744073709551616 ∧ n ≤ i + p.length
  | [], _, _, _, _, _, _, h => by cases h
  | b :: r, i, v, hi, hv, a, n, h => by
    rw [uGo] at h
    by_cases h1 : (i = 9 ∧ 1 < b) ∨ (0 < i ∧ b = 0)
    · rw [if_pos h1] at h; cases h
    · rw [if_neg h1] at h
      by_cases h2 : b < 128
      · rw [if_pos h2] at h
        simp only [Option.some.injEq, Prod.mk.injEq] at h
        obtain ⟨rfl, rfl⟩ := h
        exact ⟨uTop hi (fun h9 => by omega) hv, by rw [List.length_cons]; omega⟩
      · rw [if_neg h2] at h
        have := uGo_lt r (i + 1) _ (by omega) (uSum hv) a n h
        exact ⟨this.1, by rw [List.length_cons]; omega⟩
theorem uV_lt (p : List Nat) : uV (uintV p) < 18446744073709551616 ∧ uL (uintV p) ≤ p.length := by
  cases h : uintV p with
  | none => exact ⟨by decide, Nat.zero_le _⟩
  | some x => obtain ⟨a, n⟩ := x; have := uGo_lt p 0 0 (by decide) (by decide) a n h; exact ⟨this.1, by show n ≤ _; omega⟩
def rdU (s : List Nat) (e : Int) : Nat × List Nat × Int := if e ≠ 0 then (0, s, e) else if uE (uintV s) ≠ 0 then (0, s, uE (uintV s)) else (uV (uintV s), s.drop (uL (uintV s)), 0)
def rdI (s : List Nat) (e : Int) : Int × List Nat × Int := if e ≠ 0 then (0, s, e) else if uE (uintV s) ≠ 0 then (0, s, uE (uintV s)) else (zzV (uV (uintV s)), s.drop (uL (uintV s)), 0)
def rdS (s : List Nat) (e lo hi : Int) : Int × List Nat × Int := if e ≠ 0 then (0, s, e) else if uE (uintV s) ≠ 0 then (0, s, uE (uintV s)) else if zzV (uV (uintV s)) < lo ∨ hi < zzV (uV (uintV s)) then (0, s, 2) else (zzV (uV (uintV s)), s.drop (uL (uintV s)), 0)
def rdB (s : List Nat) (e : Int) : Nat × List Nat × Int := if e ≠ 0 then (0, s, e) else if s.length = 0 then (0, s, 6) else (s.headD 0, s.drop 1, 0)
set_option maxHeartbeats 2000000 in
set_option maxRecDepth 100000 in
theorem nint_fn (A : Option Addr) (q : Nat) (p : List Nat) (hl : p.length ≤ 9223372036854775806) (hp : ∀ b ∈ p, b < 256) :
    Does Tryz.prog 53 [.slice A p.length q] [ros encY A p] (fun r _ => r = .tuple #[.int .i64 (zzV (uV (uintV p))), .int .i64 ((uL (uintV p) : Nat) : Int), .int .i64 (uE (uintV p))]) := by
  refine Does.enter Tryz.func53 rfl Tryz.ntmps53 rfl (fun w0 => ?_)
  refine To.seq (To.reg (To.a ?_))
  refine To.a ?_
  refine To.a (To.nil (To.thenN (To.seq (To.reg ?_))))
  refine To.m ?_
  refine To.callV rfl rfl rfl (Ent.fn rfl rfl ca51) (nuint_fn A q p hl hp) rfl (oks_cons (oks_at 0 rfl) (oks_nil _)) ?_
  refine To.m ?_
  refine To.r (Rd.extract rfl rfl rfl) ?_
  refine To.r (Rd.extract rfl rfl rfl) ?_
  refine To.r (Rd.extract rfl rfl rfl) ?_
  refine To.a ?_
  refine To.a ?_
  refine To.a (To.nil (To.thenN (To.seq (To.reg ?_))))
  refine To.m ?_
  refine To.callV rfl rfl rfl (Ent.fn rfl rfl ca79) (nzz_fn (uV (uintV p)) (uV_lt p).1) rfl (oks_nil _) ?_
  refine To.m ?_
  refine To.m ?_
  refine To.a ?_
  refine To.a ?_
  refine To.a (To.nil (To.thenN (To.ret ?_)))
  refine To.end3 (.inl rfl) Tryz.results53 rfl rfl rfl ?_
  rfl
set_option maxHeartbeats 2000000 in
set_option maxRecDepth 100000 in
theorem open_fn (b : Nat) (B : Option Addr) (n cap : Nat) (e : Int) :
    Does Tryz.prog 50 [.pointer (some ⟨b, 0, none⟩)] [box b [.slice B n cap, .int .i64 e] 140] (fun v Γ' => v = .bool (decide (e = 0)) ∧ Γ' = [box b [.slice B n cap, .int .i64 e] 140]) := by
  refine Does.enter Tryz.func50 rfl Tryz.ntmps50 rfl (fun w0 => ?_)
  refine To.seq (To.reg (To.a (To.nil (To.thenN (To.seq (To.reg ?_))))))
  refine To.m ?_
  refine To.r (Rd.neqNil rfl Tryz.underlying70 rfl rfl) ?_
  refine To.m ?_
  refine To.m ?_
  refine To.r (Rd.nilCheck rfl rfl) ?_
  refine To.f fl140_1 ?_
  refine To.lo 0 c34 ?_
  refine To.r (Rd.eql rfl rfl rfl) ?_
  refine To.r (Rd.pickT rfl rfl rfl) ?_
  refine To.a (To.nil (To.thenN (To.ret ?_)))
  refine To.only [0] rfl ?_
  refine To.end1 (.inl rfl) Tryz.results50 rfl ?_
  exact ⟨rfl, rfl⟩
set_option maxHeartbeats 2000000 in
set_option maxRecDepth 100000 in
theorem take0_fn (b : Nat) (B : Option Addr) (cap : Nat) (s : List Nat) (e e' : Int) (n : Nat) (he : e' = 0) (hn : n ≤ s.length) (hc : s.length ≤ cap) :
    Does Tryz.prog 52 [.pointer (some ⟨b, 0, none⟩), .int .i64 ((n : Nat) : Int), .int .i64 e'] [box b [.slice B s.length cap, .int .i64 e] 140, ros encY B s] (fun v Γ' => ∃ (B' : Option Addr) (cap' : Nat), v = .bool true ∧ Γ' = [box b [.slice B' (s.drop n).length cap', .int .i64 e] 140, ros encY B' (s.drop n)] ∧ (s.drop n).length ≤ cap') := by
  refine Does.enter Tryz.func52 rfl Tryz.ntmps52 rfl (fun w0 => ?_)
  refine To.seq (To.reg (To.a (To.nil (To.thenN (To.seq (To.seq (To.reg ?_)))))))
  refine To.m ?_
  refine To.r (Rd.neq rfl rfl rfl) ?_
  refine To.nil (To.thenN ?_)
  refine To.condP rfl (fun c8 => ?_) (fun c8 => ?_)
  ·
   exact absurd he c8
  refine To.skip (To.thenN (To.seq (To.reg (To.m ?_))))
  refine To.m ?_
  refine To.r (Rd.nilCheck rfl rfl) ?_
  refine To.f fl140_0 ?_
  refine To.lo 0 c38 ?_
  refine To.m ?_
  refine To.r (Rd.as (v' := .slice (slAt B cap n 1) (s.drop n).length (cap - n)) (congrArg (fun z => Value.slice (slAt B cap n 1) z (cap - n)) (List.length_drop).symm) (Rd.sliceLo (lo := n) rfl s38 rfl rfl (by omega))) ?_
  refine To.r (Rd.nilCheck rfl rfl) ?_
  refine To.f fl140_0 ?_
  refine To.u (Up.store (i := 0) rfl rfl rfl c38 rfl rfl (box_takes1 rfl)) ?_
  refine To.nil (To.thenN (To.seq (To.reg (To.a (To.nil (To.thenN (To.ret ?_)))))))
  refine To.tailR encY_ok cap n 1 rfl hc (by omega) ?_
  refine To.only [1, 0] rfl ?_
  refine To.end1 (.inl rfl) Tryz.results52 rfl ?_
  exact ⟨_, _, rfl, rfl, by rw [List.length_drop]; omega⟩
set_option maxHeartbeats 2000000 in
set_option maxRecDepth 100000 in
theorem takeE_fn (b : Nat) (B : Option Addr) (cap : Nat) (s : List Nat) (e e' : Int) (n : Nat) (he : ¬ e' = 0) :
    Does Tryz.prog 52 [.pointer (some ⟨b, 0, none⟩), .int .i64 ((n : Nat) : Int), .int .i64 e'] [box b [.slice B s.length cap, .int .i64 e] 140, ros encY B s] (fun v Γ' => v = .bool false ∧ Γ' = [box b [.slice B s.length cap, .int .i64 e'] 140, ros encY B s]) := by
  refine Does.enter Tryz.func52 rfl Tryz.ntmps52 rfl (fun w0 => ?_)
  refine To.seq (To.reg (To.a (To.nil (To.thenN (To.seq (To.seq (To.reg ?_)))))))
  refine To.m ?_
  refine To.r (Rd.neq rfl rfl rfl) ?_
  refine To.nil (To.thenN ?_)
  refine To.condP rfl (fun c8 => ?_) (fun c8 => ?_)
  ·
   refine To.seq (To.reg (To.m ?_))
   refine To.m ?_
   refine To.r (Rd.nilCheck rfl rfl) ?_
   refine To.f fl140_1 ?_
   refine To.u (Up.store (i := 0) rfl rfl rfl c34 rfl rfl (box_takes1 rfl)) ?_
   refine To.nil (To.thenN (To.seq (To.reg (To.a (To.nil (To.thenN (To.ret (To.thenR ?_))))))))
   refine To.only [0, 0] rfl ?_
   refine To.end1 (.inl rfl) Tryz.results52 rfl ?_
   exact ⟨rfl, rfl⟩
  exact absurd (Decidable.not_not.1 c8) he
def tkS (s : List Nat) (n : Nat) (e' : Int) : List Nat := if e' = 0 then s.drop n else s
def tkE (e e' : Int) : Int := if e' = 0 then e else e'
theorem take_fn (b : Nat) (B : Option Addr) (cap : Nat) (s : List Nat) (e e' : Int) (n : Nat) (hn : n ≤ s.length) (hc : s.length ≤ cap) : Does Tryz.prog 52 [.pointer (some ⟨b, 0, none⟩), .int .i64 ((n : Nat) : Int), .int .i64 e'] [box b [.slice B s.length cap, .int .i64 e] 140, ros encY B s]
    (fun v Γ' => ∃ (B' : Option Addr) (cap' : Nat), v = .bool (decide (e' = 0)) ∧ Γ' = [box b [.slice B' (tkS s n e').length cap', .int .i64 (tkE e e')] 140, ros encY B' (tkS s n e')] ∧ (tkS s n e').length ≤ cap') := by
  by_cases h : e' = 0
  · refine (take0_fn b B cap s e e' n h hn hc).mono fun v Γ' ⟨B', cap', h1, h2, h3⟩ => ⟨B', cap', ?_, ?_, ?_⟩
    · rw [h1, decide_eq_true h]
    · rw [h2]; unfold tkS tkE; rw [if_pos h, if_pos h]
    · unfold tkS; rw [if_pos h]; exact h3
  · refine (takeE_fn b B cap s e e' n h).mono fun v Γ' ⟨h1, h2⟩ => ⟨B, cap, ?_, ?_, ?_⟩
    · rw [h1, decide_eq_false h]
    · rw [h2]; unfold tkS tkE; rw [if_neg h, if_neg h]
    · unfold tkS; rw [if_neg h]; exact hc
set_option maxHeartbeats 2000000 in
set_option maxRecDepth 100000 in
theorem rdU_fn (b : Nat) (B : Option Addr) (cap : Nat) (s : List Nat) (e : Int) (hl : s.length ≤ 9223372036854775806) (hp : ∀ x ∈ s, x < 256) (hc : s.length ≤ cap) :
    Does Tryz.prog 22 [.pointer (some ⟨b, 0, none⟩), .int .u64 18446744073709551615] [box b [.slice B s.length cap, .int .i64 e] 140, ros encY B s] (fun v Γ' => ∃ (B' : Option Addr) (cap' : Nat), v = .int .u64 (((rdU s e).1 : Nat) : Int) ∧ Γ' = [box b [.slice B' (rdU s e).2.1.length cap', .int .i64 (rdU s e).2.2] 140, ros encY B' (rdU s e).2.1] ∧ (rdU s e).2.1.length ≤ cap') := by
  refine Does.enter Tryz.func22 rfl Tryz.ntmps22 rfl (fun w0 => ?_)
  refine To.seq (To.reg (To.a (To.nil (To.thenN (To.seq (To.seq (To.reg ?_)))))))
  refine To.m ?_
  refine To.call [0] rfl rfl rfl (Ent.fn rfl rfl ca50) rfl (open_fn b B s.length cap e) ?_
  rintro _ _ ⟨rfl, rfl⟩
  refine To.r (Rd.not rfl rfl) ?_
  refine To.nil (To.thenN ?_)
  refine To.cond rfl (fun c10 => ?_) (fun c10 => ?_)
  ·
   refine To.seq (To.reg (To.a (To.nil (To.thenN (To.ret (To.thenR ?_))))))
   refine To.only [0, 0] rfl ?_
   refine To.end1 (.inl rfl) Tryz.results22 rfl ?_
   have he : e ≠ 0 := by simpa using c10
   rw [show rdU s e = (0, s, e) from by unfold rdU; rw [if_pos he]]
   exact ⟨B, cap, rfl, rfl, hc⟩
  refine To.skip (To.thenN (To.seq (To.reg (To.m ?_))))
  refine To.r (Rd.nilCheck rfl rfl) ?_
  refine To.f fl140_0 ?_
  refine To.lo 0 c38 ?_
  refine To.callV rfl rfl rfl (Ent.fn rfl rfl ca51) (nuint_fn B cap s hl hp) rfl (oks_cons (oks_at 1 rfl) (oks_nil _)) ?_
  refine To.m ?_
  refine To.r (Rd.extract rfl rfl rfl) ?_
  refine To.r (Rd.extract rfl rfl rfl) ?_
  refine To.r (Rd.extract rfl rfl rfl) ?_
  refine To.a ?_
  refine To.a ?_
  refine To.a (To.nil (To.thenN (To.seq (To.seq (To.reg ?_)))))
  refine To.m ?_
  refine To.r (Rd.eql rfl rfl rfl) ?_
  refine To.rdP rfl rfl rfl (Rd.move rfl rfl) (fun g22 => ?_) (fun g22 => ?_)
  ·
   refine To.m ?_
   refine To.m ?_
   refine To.r (Rd.gtr rfl rfl rfl) ?_
   refine To.r (Rd.pickT rfl rfl rfl) ?_
   refine To.nil (To.thenN ?_)
   refine To.condP rfl (fun c26 => ?_) (fun c26 => ?_)
   ·
    have := (uV_lt s).1; exfalso; omega
   refine To.skip (To.thenN (To.seq (To.seq (To.reg (To.m ?_)))))
   refine To.m ?_
   refine To.m ?_
   refine To.call [0, 0] rfl rfl rfl (Ent.fn rfl rfl ca52) rfl (take_fn b B cap s e (uE (uintV s)) (uL (uintV s)) (uV_lt s).2 hc) ?_
   rintro _ _ ⟨B', cap', rfl, rfl, hc'⟩
   refine To.r (Rd.not rfl rfl) ?_
   refine To.nil (To.thenN ?_)
   refine To.cond rfl (fun c31 => ?_) (fun c31 => ?_)
   ·
    refine To.seq (To.reg (To.a (To.nil (To.thenN (To.ret (To.thenR ?_))))))
    refine To.only [0, 0] rfl ?_
    refine To.end1 (.inl rfl) Tryz.results22 rfl ?_
    have he : e = 0 := by simpa using c10
    skip
    simp only [Bool.not_eq_true', Bool.not_eq_false', decide_eq_true_eq, decide_eq_false_iff_not] at c31
    have hR : rdU s e = (0, (tkS s (uL (uintV s)) (uE (uintV s))), tkE e (uE (uintV s))) := by
      first | (exfalso; omega) | (unfold rdU; (try unfold tkS tkE); rw [if_neg (by omega)]; ((repeat' split) <;> first | rfl | (exfalso; omega) | (rw [he]; done) | simp_all))
    rw [hR]
    exact ⟨_, _, rfl, rfl, by assumption⟩
   refine To.skip (To.thenN (To.seq (To.reg (To.m ?_))))
   refine To.a (To.nil (To.thenN (To.ret ?_)))
   refine To.only [0, 0] rfl ?_
   refine To.end1 (.inl rfl) Tryz.results22 rfl ?_
   have he : e = 0 := by simpa using c10
   skip
   simp only [Bool.not_eq_true', Bool.not_eq_false', decide_eq_true_eq, decide_eq_false_iff_not] at c31
   have hR : rdU s e = (uV (uintV s), (tkS s (uL (uintV s)) (uE (uintV s))), tkE e (uE (uintV s))) := by
     first | (exfalso; omega) | (unfold rdU; (try unfold tkS tkE); rw [if_neg (by omega)]; ((repeat' split) <;> first | rfl | (exfalso; omega) | (rw [he]; done) | simp_all))
   rw [hR]
   exact ⟨_, _, rfl, rfl, by assumption⟩
  refine To.k ?_
  refine To.k ?_
  refine To.k ?_
  refine To.r (Rd.pickF rfl rfl rfl) ?_
  refine To.nil (To.thenN ?_)
  refine To.condF rfl ?_
  refine To.skip (To.thenN (To.seq (To.seq (To.reg (To.m ?_)))))
  refine To.m ?_
  refine To.m ?_
  refine To.call [0, 0] rfl rfl rfl (Ent.fn rfl rfl ca52) rfl (take_fn b B cap s e (uE (uintV s)) (uL (uintV s)) (uV_lt s).2 hc) ?_
  rintro _ _ ⟨B', cap', rfl, rfl, hc'⟩
  refine To.r (Rd.not rfl rfl) ?_
  refine To.nil (To.thenN ?_)
  refine To.cond rfl (fun c31 => ?_) (fun c31 => ?_)
  ·
   refine To.seq (To.reg (To.a (To.nil (To.thenN (To.ret (To.thenR ?_))))))
   refine To.only [0, 0] rfl ?_
   refine To.end1 (.inl rfl) Tryz.results22 rfl ?_
   have he : e = 0 := by simpa using c10
   simp only [Bool.not_eq_true', Bool.not_eq_false', decide_eq_true_eq, decide_eq_false_iff_not] at c31
   have hR : rdU s e = (0, (tkS s (uL (uintV s)) (uE (uintV s))), tkE e (uE (uintV s))) := by
     first | (exfalso; omega) | (unfold rdU; (try unfold tkS tkE); rw [if_neg (by omega)]; ((repeat' split) <;> first | rfl | (exfalso; omega) | (rw [he]; done) | simp_all))
   rw [hR]
   exact ⟨_, _, rfl, rfl, by assumption⟩
  refine To.skip (To.thenN (To.seq (To.reg (To.m ?_))))
  refine To.a (To.nil (To.thenN (To.ret ?_)))
  refine To.only [0, 0] rfl ?_
  refine To.end1 (.inl rfl) Tryz.results22 rfl ?_
  have he : e = 0 := by simpa using c10
  simp only [Bool.not_eq_true', Bool.not_eq_false', decide_eq_true_eq, decide_eq_false_iff_not] at c31
  have hR : rdU s e = (uV (uintV s), (tkS s (uL (uintV s)) (uE (uintV s))), tkE e (uE (uintV s))) := by
    first | (exfalso; omega) | (unfold rdU; (try unfold tkS tkE); rw [if_neg (by omega)]; ((repeat' split) <;> first | rfl | (exfalso; omega) | (rw [he]; done) | simp_all))
  rw [hR]
  exact ⟨_, _, rfl, rfl, by assumption⟩
set_option maxHeartbeats 2000000 in
set_option maxRecDepth 100000 in
theorem rdI_fn (b : Nat) (B : Option Addr) (cap : Nat) (s : List Nat) (e : Int) (hl : s.length ≤ 9223372036854775806) (hp : ∀ x ∈ s, x < 256) (hc : s.length ≤ cap) :
    Does Tryz.prog 26 [.pointer (some ⟨b, 0, none⟩)] [box b [.slice B s.length cap, .int .i64 e] 140, ros encY B s] (fun v Γ' => ∃ (B' : Option Addr) (cap' : Nat), v = .int .i64 (((rdI s e).1 : Int) : Int) ∧ Γ' = [box b [.slice B' (rdI s e).2.1.length cap', .int .i64 (rdI s e).2.2] 140, ros encY B' (rdI s e).2.1] ∧ (rdI s e).2.1.length ≤ cap') := by
  refine Does.enter Tryz.func26 rfl Tryz.ntmps26 rfl (fun w0 => ?_)
  refine To.seq (To.reg (To.a (To.nil (To.thenN (To.seq (To.seq (To.reg ?_)))))))
  refine To.m ?_
  refine To.call [0] rfl rfl rfl (Ent.fn rfl rfl ca50) rfl (open_fn b B s.length cap e) ?_
  rintro _ _ ⟨rfl, rfl⟩
  refine To.r (Rd.not rfl rfl) ?_
  refine To.nil (To.thenN ?_)
  refine To.cond rfl (fun c8 => ?_) (fun c8 => ?_)
  ·
   refine To.seq (To.reg (To.a (To.nil (To.thenN (To.ret (To.thenR ?_))))))
   refine To.only [0, 0] rfl ?_
   refine To.end1 (.inl rfl) Tryz.results26 rfl ?_
   have he : e ≠ 0 := by simpa using c8
   rw [show rdI s e = (0, s, e) from by unfold rdI; rw [if_pos he]]
   exact ⟨B, cap, rfl, rfl, hc⟩
  refine To.skip (To.thenN (To.seq (To.reg (To.m ?_))))
  refine To.r (Rd.nilCheck rfl rfl) ?_
  refine To.f fl140_0 ?_
  refine To.lo 0 c38 ?_
  refine To.callV rfl rfl rfl (Ent.fn rfl rfl ca53) (nint_fn B cap s hl hp) rfl (oks_cons (oks_at 1 rfl) (oks_nil _)) ?_
  refine To.m ?_
  refine To.r (Rd.extract rfl rfl rfl) ?_
  refine To.r (Rd.extract rfl rfl rfl) ?_
  refine To.r (Rd.extract rfl rfl rfl) ?_
  refine To.a ?_
  refine To.a ?_
  refine To.a (To.nil (To.thenN (To.seq (To.seq (To.reg ?_)))))
  refine To.m ?_
  refine To.m ?_
  refine To.m ?_
  refine To.call [0, 0] rfl rfl rfl (Ent.fn rfl rfl ca52) rfl (take_fn b B cap s e (uE (uintV s)) (uL (uintV s)) (uV_lt s).2 hc) ?_
  rintro _ _ ⟨B', cap', rfl, rfl, hc'⟩
  refine To.r (Rd.not rfl rfl) ?_
  refine To.nil (To.thenN ?_)
  refine To.cond rfl (fun c22 => ?_) (fun c22 => ?_)
  ·
   refine To.seq (To.reg (To.a (To.nil (To.thenN (To.ret (To.thenR ?_))))))
   refine To.only [0, 0] rfl ?_
   refine To.end1 (.inl rfl) Tryz.results26 rfl ?_
   have he : e = 0 := by simpa using c8
   simp only [Bool.not_eq_true', Bool.not_eq_false', decide_eq_true_eq, decide_eq_false_iff_not] at c22
   have hR : rdI s e = (0, (tkS s (uL (uintV s)) (uE (uintV s))), tkE e (uE (uintV s))) := by
     first | (exfalso; omega) | (unfold rdI; (try unfold tkS tkE); rw [if_neg (by omega)]; ((repeat' split) <;> first | rfl | (exfalso; omega) | (rw [he]; done) | simp_all))
   rw [hR]
   exact ⟨_, _, rfl, rfl, by assumption⟩
  refine To.skip (To.thenN (To.seq (To.reg (To.m ?_))))
  refine To.a (To.nil (To.thenN (To.ret ?_)))
  refine To.only [0, 0] rfl ?_
  refine To.end1 (.inl rfl) Tryz.results26 rfl ?_
  have he : e = 0 := by simpa using c8
  simp only [Bool.not_eq_true', Bool.not_eq_false', decide_eq_true_eq, decide_eq_false_iff_not] at c22
  have hR : rdI s e = (zzV (uV (uintV s)), (tkS s (uL (uintV s)) (uE (uintV s))), tkE e (uE (uintV s))) := by
    first | (exfalso; omega) | (unfold rdI; (try unfold tkS tkE); rw [if_neg (by omega)]; ((repeat' split) <;> first | rfl | (exfalso; omega) | (rw [he]; done) | simp_all))
  rw [hR]
  exact ⟨_, _, rfl, rfl, by assumption⟩
set_option maxHeartbeats 2000000 in
set_option maxRecDepth 100000 in
theorem rdS_fn (b : Nat) (B : Option Addr) (cap : Nat) (s : List Nat) (e : Int) (lo hi : Int) (hl : s.length ≤ 9223372036854775806) (hp : ∀ x ∈ s, x < 256) (hc : s.length ≤ cap) :
    Does Tryz.prog 25 [.pointer (some ⟨b, 0, none⟩), .int .i64 lo, .int .i64 hi] [box b [.slice B s.length cap, .int .i64 e] 140, ros encY B s] (fun v Γ' => ∃ (B' : Option Addr) (cap' : Nat), v = .int .i64 (((rdS s e lo hi).1 : Int) : Int) ∧ Γ' = [box b [.slice B' (rdS s e lo hi).2.1.length cap', .int .i64 (rdS s e lo hi).2.2] 140, ros encY B' (rdS s e lo hi).2.1] ∧ (rdS s e lo hi).2.1.length ≤ cap') := by
  refine Does.enter Tryz.func25 rfl Tryz.ntmps25 rfl (fun w0 => ?_)
  refine To.seq (To.reg (To.a (To.nil (To.thenN (To.seq (To.seq (To.reg ?_)))))))
  refine To.m ?_
  refine To.call [0] rfl rfl rfl (Ent.fn rfl rfl ca50) rfl (open_fn b B s.length cap e) ?_
  rintro _ _ ⟨rfl, rfl⟩
  refine To.r (Rd.not rfl rfl) ?_
  refine To.nil (To.thenN ?_)
  refine To.cond rfl (fun c12 => ?_) (fun c12 => ?_)
  ·
   refine To.seq (To.reg (To.a (To.nil (To.thenN (To.ret (To.thenR ?_))))))
   refine To.only [0, 0] rfl ?_
   refine To.end1 (.inl rfl) Tryz.results25 rfl ?_
   have he : e ≠ 0 := by simpa using c12
   rw [show rdS s e lo hi = (0, s, e) from by unfold rdS; rw [if_pos he]]
   exact ⟨B, cap, rfl, rfl, hc⟩
  refine To.skip (To.thenN (To.seq (To.reg (To.m ?_))))
  refine To.r (Rd.nilCheck rfl rfl) ?_
  refine To.f fl140_0 ?_
  refine To.lo 0 c38 ?_
  refine To.callV rfl rfl rfl (Ent.fn rfl rfl ca53) (nint_fn B cap s hl hp) rfl (oks_cons (oks_at 1 rfl) (oks_nil _)) ?_
  refine To.m ?_
  refine To.r (Rd.extract rfl rfl rfl) ?_
  refine To.r (Rd.extract rfl rfl rfl) ?_
  refine To.r (Rd.extract rfl rfl rfl) ?_
  refine To.a ?_
  refine To.a ?_
  refine To.a (To.nil (To.thenN (To.seq (To.seq (To.reg ?_)))))
  refine To.m ?_
  refine To.r (Rd.eql rfl rfl rfl) ?_
  refine To.rdP rfl rfl rfl (Rd.move rfl rfl) (fun g24 => ?_) (fun g24 => ?_)
  ·
   refine To.m ?_
   refine To.m ?_
   refine To.r (Rd.lss rfl rfl rfl) ?_
   refine To.rdP rfl rfl rfl (Rd.move rfl rfl) (fun g28 => ?_) (fun g28 => ?_)
   ·
    refine To.k ?_
    refine To.k ?_
    refine To.k ?_
    refine To.r (Rd.pickT rfl rfl rfl) ?_
    refine To.r (Rd.pickT rfl rfl rfl) ?_
    refine To.nil (To.thenN ?_)
    refine To.condT rfl ?_
    refine To.reg (To.a (To.nil (To.thenN (To.seq (To.seq (To.reg ?_))))))
    refine To.m ?_
    refine To.m ?_
    refine To.m ?_
    refine To.call [0, 0] rfl rfl rfl (Ent.fn rfl rfl ca52) rfl (take_fn b B cap s e 2 (uL (uintV s)) (uV_lt s).2 hc) ?_
    rintro _ _ ⟨B', cap', rfl, rfl, hc'⟩
    refine To.r (Rd.not rfl rfl) ?_
    refine To.nil (To.thenN ?_)
    refine To.cond rfl (fun c38 => ?_) (fun c38 => ?_)
    ·
     refine To.seq (To.reg (To.a (To.nil (To.thenN (To.ret (To.thenR ?_))))))
     refine To.only [0, 0] rfl ?_
     refine To.end1 (.inl rfl) Tryz.results25 rfl ?_
     have he : e = 0 := by simpa using c12
     simp only [Bool.not_eq_true', Bool.not_eq_false', decide_eq_true_eq, decide_eq_false_iff_not] at c38
     have hR : rdS s e lo hi = (0, (tkS s (uL (uintV s)) 2), tkE e 2) := by
       first | (exfalso; omega) | (unfold rdS; (try unfold tkS tkE); rw [if_neg (by omega)]; ((repeat' split) <;> first | rfl | (exfalso; omega) | (rw [he]; done) | simp_all))
     rw [hR]
     exact ⟨_, _, rfl, rfl, by assumption⟩
    refine To.skip (To.thenN (To.seq (To.reg (To.m ?_))))
    refine To.a (To.nil (To.thenN (To.ret ?_)))
    refine To.only [0, 0] rfl ?_
    refine To.end1 (.inl rfl) Tryz.results25 rfl ?_
    have he : e = 0 := by simpa using c12
    simp only [Bool.not_eq_true', Bool.not_eq_false', decide_eq_true_eq, decide_eq_false_iff_not] at c38
    have hR : rdS s e lo hi = (zzV (uV (uintV s)), (tkS s (uL (uintV s)) 2), tkE e 2) := by
      first | (exfalso; omega) | (unfold rdS; (try unfold tkS tkE); rw [if_neg (by omega)]; ((repeat' split) <;> first | rfl | (exfalso; omega) | (rw [he]; done) | simp_all))
    rw [hR]
    exact ⟨_, _, rfl, rfl, by assumption⟩
   refine To.m ?_
   refine To.m ?_
   refine To.r (Rd.gtr rfl rfl rfl) ?_
   refine To.r (Rd.pickF rfl rfl rfl) ?_
   refine To.r (Rd.pickT rfl rfl rfl) ?_
   refine To.nil (To.thenN ?_)
   refine To.condP rfl (fun c33 => ?_) (fun c33 => ?_)
   ·
    refine To.reg (To.a (To.nil (To.thenN (To.seq (To.seq (To.reg ?_))))))
    refine To.m ?_
    refine To.m ?_
    refine To.m ?_
    refine To.call [0, 0] rfl rfl rfl (Ent.fn rfl rfl ca52) rfl (take_fn b B cap s e 2 (uL (uintV s)) (uV_lt s).2 hc) ?_
    rintro _ _ ⟨B', cap', rfl, rfl, hc'⟩
    refine To.r (Rd.not rfl rfl) ?_
    refine To.nil (To.thenN ?_)
    refine To.cond rfl (fun c38 => ?_) (fun c38 => ?_)
    ·
     refine To.seq (To.reg (To.a (To.nil (To.thenN (To.ret (To.thenR ?_))))))
     refine To.only [0, 0] rfl ?_
     refine To.end1 (.inl rfl) Tryz.results25 rfl ?_
     have he : e = 0 := by simpa using c12
     skip
     simp only [Bool.not_eq_true', Bool.not_eq_false', decide_eq_true_eq, decide_eq_false_iff_not] at c38
     have hR : rdS s e lo hi = (0, (tkS s (uL (uintV s)) 2), tkE e 2) := by
       first | (exfalso; omega) | (unfold rdS; (try unfold tkS tkE); rw [if_neg (by omega)]; ((repeat' split) <;> first | rfl | (exfalso; omega) | (rw [he]; done) | simp_all))
     rw [hR]
     exact ⟨_, _, rfl, rfl, by assumption⟩
    refine To.skip (To.thenN (To.seq (To.reg (To.m ?_))))
    refine To.a (To.nil (To.thenN (To.ret ?_)))
    refine To.only [0, 0] rfl ?_
    refine To.end1 (.inl rfl) Tryz.results25 rfl ?_
    have he : e = 0 := by simpa using c12
    skip
    simp only [Bool.not_eq_true', Bool.not_eq_false', decide_eq_true_eq, decide_eq_false_iff_not] at c38
    have hR : rdS s e lo hi = (zzV (uV (uintV s)), (tkS s (uL (uintV s)) 2), tkE e 2) := by
      first | (exfalso; omega) | (unfold rdS; (try unfold tkS tkE); rw [if_neg (by omega)]; ((repeat' split) <;> first | rfl | (exfalso; omega) | (rw [he]; done) | simp_all))
    rw [hR]
    exact ⟨_, _, rfl, rfl, by assumption⟩
   refine To.skip (To.thenN (To.seq (To.seq (To.reg (To.m ?_)))))
   refine To.m ?_
   refine To.m ?_
   refine To.call [0, 0] rfl rfl rfl (Ent.fn rfl rfl ca52) rfl (take_fn b B cap s e (uE (uintV s)) (uL (uintV s)) (uV_lt s).2 hc) ?_
   rintro _ _ ⟨B', cap', rfl, rfl, hc'⟩
   refine To.r (Rd.not rfl rfl) ?_
   refine To.nil (To.thenN ?_)
   refine To.cond rfl (fun c38 => ?_) (fun c38 => ?_)
   ·
    refine To.seq (To.reg (To.a (To.nil (To.thenN (To.ret (To.thenR ?_))))))
    refine To.only [0, 0] rfl ?_
    refine To.end1 (.inl rfl) Tryz.results25 rfl ?_
    have he : e = 0 := by simpa using c12
    skip
    simp only [Bool.not_eq_true', Bool.not_eq_false', decide_eq_true_eq, decide_eq_false_iff_not] at c38
    have hR : rdS s e lo hi = (0, (tkS s (uL (uintV s)) (uE (uintV s))), tkE e (uE (uintV s))) := by
      first | (exfalso; omega) | (unfold rdS; (try unfold tkS tkE); rw [if_neg (by omega)]; ((repeat' split) <;> first | rfl | (exfalso; omega) | (rw [he]; done) | simp_all))
    rw [hR]
    exact ⟨_, _, rfl, rfl, by assumption⟩
   refine To.skip (To.thenN (To.seq (To.reg (To.m ?_))))
   refine To.a (To.nil (To.thenN (To.ret ?_)))
   refine To.only [0, 0] rfl ?_
   refine To.end1 (.inl rfl) Tryz.results25 rfl ?_
   have he : e = 0 := by simpa using c12
   skip
   simp only [Bool.not_eq_true', Bool.not_eq_false', decide_eq_true_eq, decide_eq_false_iff_not] at c38
   have hR : rdS s e lo hi = (zzV (uV (uintV s)), (tkS s (uL (uintV s)) (uE (uintV s))), tkE e (uE (uintV s))) := by
     first | (exfalso; omega) | (unfold rdS; (try unfold tkS tkE); rw [if_neg (by omega)]; ((repeat' split) <;> first | rfl | (exfalso; omega) | (rw [he]; done) | simp_all))
   rw [hR]
   exact ⟨_, _, rfl, rfl, by assumption⟩
  refine To.k ?_
  refine To.k ?_
  refine To.k ?_
  refine To.k ?_
  refine To.k ?_
  refine To.k ?_
  refine To.k ?_
  refine To.k ?_
  refine To.r (Rd.pickF rfl rfl rfl) ?_
  refine To.nil (To.thenN ?_)
  refine To.condF rfl ?_
  refine To.skip (To.thenN (To.seq (To.seq (To.reg (To.m ?_)))))
  refine To.m ?_
  refine To.m ?_
  refine To.call [0, 0] rfl rfl rfl (Ent.fn rfl rfl ca52) rfl (take_fn b B cap s e (uE (uintV s)) (uL (uintV s)) (uV_lt s).2 hc) ?_
  rintro _ _ ⟨B', cap', rfl, rfl, hc'⟩
  refine To.r (Rd.not rfl rfl) ?_
  refine To.nil (To.thenN ?_)
  refine To.cond rfl (fun c38 => ?_) (fun c38 => ?_)
  ·
   refine To.seq (To.reg (To.a (To.nil (To.thenN (To.ret (To.thenR ?_))))))
   refine To.only [0, 0] rfl ?_
   refine To.end1 (.inl rfl) Tryz.results25 rfl ?_
   have he : e = 0 := by simpa using c12
   simp only [Bool.not_eq_true', Bool.not_eq_false', decide_eq_true_eq, decide_eq_false_iff_not] at c38
   have hR : rdS s e lo hi = (0, (tkS s (uL (uintV s)) (uE (uintV s))), tkE e (uE (uintV s))) := by
     first | (exfalso; omega) | (unfold rdS; (try unfold tkS tkE); rw [if_neg (by omega)]; ((repeat' split) <;> first | rfl | (exfalso; omega) | (rw [he]; done) | simp_all))
   rw [hR]
   exact ⟨_, _, rfl, rfl, by assumption⟩
  refine To.skip (To.thenN (To.seq (To.reg (To.m ?_))))
  refine To.a (To.nil (To.thenN (To.ret ?_)))
  refine To.only [0, 0] rfl ?_
  refine To.end1 (.inl rfl) Tryz.results25 rfl ?_
  have he : e = 0 := by simpa using c12
  simp only [Bool.not_eq_true', Bool.not_eq_false', decide_eq_true_eq, decide_eq_false_iff_not] at c38
  have hR : rdS s e lo hi = (zzV (uV (uintV s)), (tkS s (uL (uintV s)) (uE (uintV s))), tkE e (uE (uintV s))) := by
    first | (exfalso; omega) | (unfold rdS; (try unfold tkS tkE); rw [if_neg (by omega)]; ((repeat' split) <;> first | rfl | (exfalso; omega) | (rw [he]; done) | simp_all))
  rw [hR]
  exact ⟨_, _, rfl, rfl, by assumption⟩
theorem head_of {s : List Nat} {y : Nat} (h : s[0]? = some y) : s.headD 0 = y := by
  cases s with
  | nil => cases h
  | cons a r => simpa using h
theorem rows_cap {Γ : List Chunk} {w : World} {α : Type} {enc : α → List Value} {size : Nat} {e : TypeId} {A : Option Addr} {cap : Nat} {l : List α} (i : Nat) (h : Γ[i]? = some (rows enc e size A cap l)) (hs : sat Γ w) : l.length ≤ cap := by
  obtain ⟨A', cap', h1, _, h2, _⟩ := own_form (show w.ownsRow 0 e size (.slice A l.length cap) l.length _ from hs.each _ (List.mem_of_getElem? h))
  simp only [Value.slice.injEq] at h1
  omega
set_option maxHeartbeats 2000000 in
set_option maxRecDepth 100000 in
theorem rdB_fn (b : Nat) (B : Option Addr) (cap : Nat) (s : List Nat) (e : Int) (hl : s.length ≤ 9223372036854775806) (hp : ∀ x ∈ s, x < 256) (hc : s.length ≤ cap) :
    Does Tryz.prog 24 [.pointer (some ⟨b, 0, none⟩)] [box b [.slice B s.length cap, .int .i64 e] 140, ros encY B s] (fun v Γ' => ∃ (B' : Option Addr) (cap' : Nat), v = .int .u8 (((rdB s e).1 : Nat) : Int) ∧ Γ' = [box b [.slice B' (rdB s e).2.1.length cap', .int .i64 (rdB s e).2.2] 140, ros encY B' (rdB s e).2.1] ∧ (rdB s e).2.1.length ≤ cap') := by
  refine Does.enter Tryz.func24 rfl Tryz.ntmps24 rfl (fun w0 => ?_)
  refine To.seq (To.reg (To.a (To.nil (To.thenN (To.seq (To.seq (To.reg ?_)))))))
  refine To.m ?_
  refine To.call [0] rfl rfl rfl (Ent.fn rfl rfl ca50) rfl (open_fn b B s.length cap e) ?_
  rintro _ _ ⟨rfl, rfl⟩
  refine To.r (Rd.not rfl rfl) ?_
  refine To.nil (To.thenN ?_)
  refine To.cond rfl (fun c6 => ?_) (fun c6 => ?_)
  ·
   refine To.seq (To.reg (To.a (To.nil (To.thenN (To.ret (To.thenR ?_))))))
   refine To.only [0, 0] rfl ?_
   refine To.end1 (.inl rfl) Tryz.results24 rfl ?_
   have he : e ≠ 0 := by simpa using c6
   rw [show rdB s e = (0, s, e) from by unfold rdB; rw [if_pos he]]
   exact ⟨B, cap, rfl, rfl, hc⟩
  refine To.skip (To.thenN (To.seq (To.seq (To.reg (To.m ?_)))))
  refine To.r (Rd.nilCheck rfl rfl) ?_
  refine To.f fl140_0 ?_
  refine To.lo 0 c38 ?_
  refine To.r (Rd.len rfl rfl Tryz.underlying38) ?_
  refine To.r (Rd.eql rfl rfl rfl) ?_
  refine To.nil (To.thenN ?_)
  refine To.condP rfl (fun c12 => ?_) (fun c12 => ?_)
  ·
   refine To.seq (To.reg (To.m ?_))
   refine To.r (Rd.nilCheck rfl rfl) ?_
   refine To.f fl140_1 ?_
   refine To.u (Up.store (i := 0) rfl rfl rfl c34 rfl rfl (box_takes1 rfl)) ?_
   refine To.nil (To.thenN (To.seq (To.reg (To.a (To.nil (To.thenN (To.ret (To.thenR ?_))))))))
   refine To.only [0, 0] rfl ?_
   refine To.end1 (.inl rfl) Tryz.results24 rfl ?_
   have he : e = 0 := by simpa using c6
   rw [show rdB s e = (0, s, 6) from by unfold rdB; rw [if_neg (by omega), if_pos (by omega)]]
   exact ⟨B, cap, rfl, rfl, hc⟩
  obtain ⟨y, hy⟩ : ∃ z0, s[0]? = some z0 := ⟨s[0]'(by omega), List.getElem?_eq_getElem _⟩
  refine To.skip (To.thenN (To.seq (To.reg (To.m ?_))))
  refine To.r (Rd.nilCheck rfl rfl) ?_
  refine To.f fl140_0 ?_
  refine To.lo 0 c38 ?_
  refine To.r (Rd.indexRos encY_ok (i := 1) (j := 0) rfl rfl rfl s38 rfl hy) ?_
  refine To.r (Rd.load (i := 1) rfl rfl c5 rfl (gives_1 (ros_gives encY_ok hy) rfl)) ?_
  refine To.a (To.nil (To.thenN (To.seq (To.reg ?_))))
  refine To.m ?_
  refine To.m ?_
  refine To.r (Rd.nilCheck rfl rfl) ?_
  refine To.f fl140_0 ?_
  refine To.lo 0 c38 ?_
  refine To.r (Rd.as (v' := .slice (slAt B cap 1 1) (s.drop 1).length (cap - 1)) (congrArg (fun z => Value.slice (slAt B cap 1 1) z (cap - 1)) (List.length_drop).symm) (Rd.sliceLo (lo := 1) rfl s38 rfl rfl (by omega))) ?_
  refine To.r (Rd.nilCheck rfl rfl) ?_
  refine To.f fl140_0 ?_
  refine To.u (Up.store (i := 0) rfl rfl rfl c38 rfl rfl (box_takes1 rfl)) ?_
  refine To.nil (To.thenN (To.seq (To.reg (To.m ?_))))
  refine To.a (To.nil (To.thenN (To.ret ?_)))
  refine To.tailR encY_ok cap 1 1 rfl hc (by omega) ?_
  refine To.only [1, 0] rfl ?_
  refine To.end1 (.inl rfl) Tryz.results24 rfl ?_
  have he : e = 0 := by simpa using c6
  rw [show rdB s e = (y, s.drop 1, e) from by unfold rdB; rw [if_neg (by omega), if_neg (by omega), head_of hy, he]]
  exact ⟨_, _, rfl, rfl, by rw [List.length_drop]; omega⟩
set_option maxHeartbeats 2000000 in
set_option maxRecDepth 100000 in
theorem left_fn (b : Nat) (B : Option Addr) (n cap : Nat) (e : Int) :
    Does Tryz.prog 27 [.pointer (some ⟨b, 0, none⟩)] [box b [.slice B n cap, .int .i64 e] 140] (fun v Γ' => v = .int .i64 ((n : Nat) : Int) ∧ Γ' = [box b [.slice B n cap, .int .i64 e] 140]) := by
  refine Does.enter Tryz.func27 rfl Tryz.ntmps27 rfl (fun w0 => ?_)
  refine To.seq (To.reg (To.a (To.nil (To.thenN (To.seq (To.seq (To.reg ?_)))))))
  refine To.m ?_
  refine To.r (Rd.eqlNil rfl Tryz.underlying70 rfl rfl) ?_
  refine To.nil (To.thenN ?_)
  refine To.condF rfl ?_
  refine To.skip (To.thenN (To.seq (To.reg (To.m ?_))))
  refine To.r (Rd.nilCheck rfl rfl) ?_
  refine To.f fl140_0 ?_
  refine To.lo 0 c38 ?_
  refine To.r (Rd.len rfl rfl Tryz.underlying38) ?_
  refine To.a (To.nil (To.thenN (To.ret ?_)))
  refine To.only [0] rfl ?_
  refine To.end1 (.inl rfl) Tryz.results27 rfl ?_
  exact ⟨rfl, rfl⟩
set_option maxHeartbeats 2000000 in
set_option maxRecDepth 100000 in
theorem err_fn (b : Nat) (B : Option Addr) (n cap : Nat) (e : Int) :
    Does Tryz.prog 23 [.pointer (some ⟨b, 0, none⟩)] [box b [.slice B n cap, .int .i64 e] 140] (fun v Γ' => v = .int .i64 e ∧ Γ' = [box b [.slice B n cap, .int .i64 e] 140]) := by
  refine Does.enter Tryz.func23 rfl Tryz.ntmps23 rfl (fun w0 => ?_)
  refine To.seq (To.reg (To.a (To.nil (To.thenN (To.seq (To.seq (To.reg ?_)))))))
  refine To.m ?_
  refine To.r (Rd.eqlNil rfl Tryz.underlying70 rfl rfl) ?_
  refine To.nil (To.thenN ?_)
  refine To.condF rfl ?_
  refine To.skip (To.thenN (To.seq (To.reg (To.m ?_))))
  refine To.r (Rd.nilCheck rfl rfl) ?_
  refine To.f fl140_1 ?_
  refine To.lo 0 c34 ?_
  refine To.a (To.nil (To.thenN (To.ret ?_)))
  refine To.only [0] rfl ?_
  refine To.end1 (.inl rfl) Tryz.results23 rfl ?_
  exact ⟨rfl, rfl⟩
set_option maxHeartbeats 2000000 in
set_option maxRecDepth 100000 in
theorem new_fn (A : Option Addr) (q : Nat) (p : List Nat) (hl : p.length ≤ 140737488355327) :
    Does Tryz.prog 21 [.slice A p.length q] [ros encY A p] (fun v Γ' => ∃ (b : Nat) (B : Option Addr) (cap : Nat), v = .pointer (some ⟨b, 0, none⟩) ∧ Γ' = [box b [.slice B p.length cap, .int .i64 0] 140, ros encY B p] ∧ p.length ≤ cap) := by
  refine Does.enter Tryz.func21 rfl Tryz.ntmps21 rfl (fun w0 => ?_)
  refine To.seq (To.reg (To.a (To.nil (To.thenN (To.seq (To.reg ?_))))))
  refine To.mk rfl rfl rfl (Mk.slice0R (α := Nat) (enc := encY) rfl s38) ?_
  rintro _ _ ⟨A3, rfl, rfl⟩
  refine To.m ?_
  refine To.ge rfl rfl rfl (Ge.appendL encY_ok (i := 0) (m := p) rfl s38 rfl rfl rfl (src_ro (i := 1) rfl) (by simp only [List.length_nil]; omega) (by simp only [List.length_nil]; omega)) ?_
  rintro _ _ ⟨A5, q5, rfl, rfl⟩
  refine To.r (Rd.build (vs := [(0, .slice A5 (([] ++ p : List Nat).length) q5)]) (cells := [.slice A5 (([] ++ p : List Nat).length) q5, .int .i64 0]) rfl rfl rfl (by kernel_rfl)) ?_
  refine To.boxed rfl rfl rfl rfl rfl rfl (fun b7 => ?_)
  refine To.a (To.nil (To.thenN (To.ret ?_)))
  refine To.know (p := ([] ++ p : List Nat).length ≤ q5) (fun w hw => rows_cap 1 rfl hw) (fun hcap => ?_)
  refine To.only [1, 0, 0] rfl ?_
  refine To.layRow ?_
  refine To.only [1, 0] rfl ?_
  refine To.end1 (.inl rfl) Tryz.results21 rfl ?_
  exact ⟨_, _, _, rfl, rfl, hcap⟩
end Go.Proofs.YtfkmjkooemjekaaGreatDoor

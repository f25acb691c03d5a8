/- Keys and messages, how they are compared and sorted. Own text (walks printed by sx.py). -/
import Derived.Test.YtnghonabedcacaaSepq
import Derived.Test.YtnghonabedcacaaSepm
import Derived.Test.YtnghonabedcacaaSeps
import Derived.Test.YtnghonabedcacaaSepk
import Derived.Test.YtnghonabedcacaaSepb
import Derived.Test.YtnghonabedcacaaT
namespace Go.Proofs.Ytnghonabedcacaa
open Go.RowKit Go.Flow Go.Mem Go.Sep
def encI (n : Int) : List Value := [.int .i64 n]
theorem encI_ok : Enc encI 1 := ⟨fun _ => rfl, fun x u hu => by simp [encI] at hu; subst hu; rfl⟩
structure Ky where
  k : Int
  a : Int
  b : Int
  n : Int
deriving DecidableEq
def Ky.cells (e : Ky) : List Value := [.int .u8 e.k, .int .i64 e.a, .int .i64 e.b, .int .i64 e.n]
theorem encK : Enc Ky.cells 4 := ⟨fun _ => rfl, fun e u hu => by
  simp only [Ky.cells, List.mem_cons, List.not_mem_nil, or_false] at hu
  rcases hu with rfl | rfl | rfl | rfl <;> rfl⟩
structure Ms where
  f : Int
  t : Int
  n : Int
deriving DecidableEq
def Ms.cells (e : Ms) : List Value := [.int .i64 e.f, .int .i64 e.t, .int .i64 e.n]
theorem encM : Enc Ms.cells 3 := ⟨fun _ => rfl, fun e u hu => by
  simp only [Ms.cells, List.mem_cons, List.not_mem_nil, or_false] at hu
  rcases hu with rfl | rfl | rfl <;> rfl⟩
def Ky.cmp (x y : Ky) : Int := orL [cmpI x.k y.k, cmpI x.a y.a, cmpI x.b y.b, cmpI x.n y.n]
def Ms.cmp (x y : Ms) : Int := orL [cmpI x.f y.f, cmpI x.t y.t, cmpI x.n y.n]
theorem or_id (z : Int) : (if z = 0 then 0 else z) = z := by split <;> omega
theorem cmpK : Cmp Ky.cmp := by
  have h := (cmp_cmpI.comap Ky.k).lex ((cmp_cmpI.comap Ky.a).lex ((cmp_cmpI.comap Ky.b).lex (cmp_cmpI.comap Ky.n)))
  have e : Ky.cmp = _ := funext fun x => funext fun y => show _ = (if cmpI x.k y.k = 0 then (if cmpI x.a y.a = 0 then (if cmpI x.b y.b = 0 then cmpI x.n y.n else cmpI x.b y.b) else cmpI x.a y.a) else cmpI x.k y.k) by simp only [Ky.cmp, orL, or_id]
  rw [e]; exact h
theorem cmpM : Cmp Ms.cmp := by
  have h := (cmp_cmpI.comap Ms.f).lex ((cmp_cmpI.comap Ms.t).lex (cmp_cmpI.comap Ms.n))
  have e : Ms.cmp = _ := funext fun x => funext fun y => show _ = (if cmpI x.f y.f = 0 then (if cmpI x.t y.t = 0 then cmpI x.n y.n else cmpI x.t y.t) else cmpI x.f y.f) by simp only [Ms.cmp, orL, or_id]
  rw [e]; exact h
theorem Ky.cmp_zero (x y : Ky) (h : x.cmp y = 0) : x = y := by
  have h1 := @cmpI_zero x.k y.k; have h2 := @cmpI_zero x.a y.a; have h3 := @cmpI_zero x.b y.b; have h4 := @cmpI_zero x.n y.n
  simp only [Ky.cmp, orL, or_id] at h
  cases x; cases y; simp only [Ky.mk.injEq] at *
  split at h <;> (try split at h) <;> (try split at h) <;> simp_all
theorem Ms.cmp_zero (x y : Ms) (h : x.cmp y = 0) : x = y := by
  have h1 := @cmpI_zero x.f y.f; have h2 := @cmpI_zero x.t y.t; have h3 := @cmpI_zero x.n y.n
  simp only [Ms.cmp, orL, or_id] at h
  cases x; cases y; simp only [Ms.mk.injEq] at *
  split at h <;> (try split at h) <;> simp_all
theorem Ky.lt_iff (x y : Ky) : x.cmp y < 0 ↔ if x.k ≠ y.k then x.k < y.k else if x.a ≠ y.a then x.a < y.a else if x.b ≠ y.b then x.b < y.b else x.n < y.n := by
  simp only [Ky.cmp, orL, or_id]
  simp only [ne_eq, ite_not, cmpI_zero]
  split <;> (try split) <;> (try split) <;> exact cmpI_neg
theorem Ms.lt_iff (x y : Ms) : x.cmp y < 0 ↔ if x.f ≠ y.f then x.f < y.f else if x.t ≠ y.t then x.t < y.t else x.n < y.n := by
  simp only [Ms.cmp, orL, or_id]
  simp only [ne_eq, ite_not, cmpI_zero]
  split <;> (try split) <;> exact cmpI_neg
set_option maxHeartbeats 2000000 in
set_option maxRecDepth 100000 in
theorem nan40 (a : Int) :
    Does Try.prog 40 [.int .i64 a] [] (fun v _ => v = .bool false) := by
  refine Does.enter Try.func40 rfl Try.ntmps40 rfl (fun w0 => ?_)
  refine To.seq ?_
  refine To.reg ?_
  refine To.rd rfl rfl rfl (Rd.assign rfl rfl) ?_
  refine To.nil ?_
  refine To.thenN ?_
  refine To.seq ?_
  refine To.reg ?_
  refine To.rd rfl rfl rfl (Rd.move rfl rfl) ?_
  refine To.rd rfl rfl rfl (Rd.move rfl rfl) ?_
  refine To.rd rfl rfl rfl (Rd.neq rfl rfl rfl) ?_
  refine To.rd rfl rfl rfl (Rd.assign rfl rfl) ?_
  refine To.nil ?_
  refine To.thenN ?_
  refine To.ret ?_
  refine To.end1 (.inl rfl) Try.results40 rfl ?_
  simp
set_option maxHeartbeats 2000000 in
set_option maxRecDepth 100000 in
theorem nan48 (a : Int) :
    Does Try.prog 48 [.int .u8 a] [] (fun v _ => v = .bool false) := by
  refine Does.enter Try.func48 rfl Try.ntmps48 rfl (fun w0 => ?_)
  refine To.seq ?_
  refine To.reg ?_
  refine To.rd rfl rfl rfl (Rd.assign rfl rfl) ?_
  refine To.nil ?_
  refine To.thenN ?_
  refine To.seq ?_
  refine To.reg ?_
  refine To.rd rfl rfl rfl (Rd.move rfl rfl) ?_
  refine To.rd rfl rfl rfl (Rd.move rfl rfl) ?_
  refine To.rd rfl rfl rfl (Rd.neq rfl rfl rfl) ?_
  refine To.rd rfl rfl rfl (Rd.assign rfl rfl) ?_
  refine To.nil ?_
  refine To.thenN ?_
  refine To.ret ?_
  refine To.end1 (.inl rfl) Try.results48 rfl ?_
  simp
set_option maxHeartbeats 2000000 in
set_option maxRecDepth 100000 in
theorem cmp25 (a b : Int) :
    Does Try.prog 25 [.int .i64 a, .int .i64 b] [] (fun v _ => v = .int .i64 (cmpI a b)) := by
  refine Does.enter Try.func25 rfl Try.ntmps25 rfl (fun w0 => ?_)
  refine To.seq ?_
  refine To.reg ?_
  refine To.rd rfl rfl rfl (Rd.assign rfl rfl) ?_
  refine To.nil ?_
  refine To.thenN ?_
  refine To.seq ?_
  refine To.reg ?_
  refine To.rd rfl rfl rfl (Rd.move rfl rfl) ?_
  refine To.callV rfl rfl rfl (Ent.fn rfl rfl ca40) (nan40 a) rfl (oks_nil _) ?_
  refine To.rd rfl rfl rfl (Rd.assign rfl rfl) ?_
  refine To.nil ?_
  refine To.thenN ?_
  refine To.seq ?_
  refine To.reg ?_
  refine To.rd rfl rfl rfl (Rd.move rfl rfl) ?_
  refine To.callV rfl rfl rfl (Ent.fn rfl rfl ca40) (nan40 b) rfl (oks_nil _) ?_
  refine To.rd rfl rfl rfl (Rd.assign rfl rfl) ?_
  refine To.nil ?_
  refine To.thenN ?_
  refine To.seq ?_
  refine To.seq ?_
  refine To.reg ?_
  refine To.rd rfl rfl rfl (Rd.move rfl rfl) ?_
  refine To.nil ?_
  refine To.thenN ?_
  refine To.condF rfl ?_
  refine To.skip ?_
  refine To.thenN ?_
  refine To.seq ?_
  refine To.seq ?_
  refine To.reg ?_
  refine To.rd rfl rfl rfl (Rd.move rfl rfl) ?_
  refine To.nil ?_
  refine To.thenN ?_
  refine To.condF rfl ?_
  refine To.skip ?_
  refine To.thenN ?_
  refine To.seq ?_
  refine To.seq ?_
  refine To.reg ?_
  refine To.rd rfl rfl rfl (Rd.move rfl rfl) ?_
  refine To.rd rfl rfl rfl (Rd.move rfl rfl) ?_
  refine To.rd rfl rfl rfl (Rd.lss rfl rfl rfl) ?_
  refine To.nil ?_
  refine To.thenN ?_
  refine To.condP rfl (fun c16 => ?_) (fun c16 => ?_)
  ·
    refine To.seq ?_
    refine To.reg ?_
    refine To.rd rfl rfl rfl (Rd.assign rfl rfl) ?_
    refine To.nil ?_
    refine To.thenN ?_
    refine To.ret ?_
    refine To.thenR ?_
    refine To.end1 (.inl rfl) Try.results25 rfl ?_
    unfold cmpI; rw [if_pos c16]
  ·
    refine To.skip ?_
    refine To.thenN ?_
    refine To.seq ?_
    refine To.seq ?_
    refine To.reg ?_
    refine To.rd rfl rfl rfl (Rd.move rfl rfl) ?_
    refine To.rd rfl rfl rfl (Rd.move rfl rfl) ?_
    refine To.rd rfl rfl rfl (Rd.gtr rfl rfl rfl) ?_
    refine To.nil ?_
    refine To.thenN ?_
    refine To.condP rfl (fun c19 => ?_) (fun c19 => ?_)
    ·
      refine To.seq ?_
      refine To.reg ?_
      refine To.rd rfl rfl rfl (Rd.assign rfl rfl) ?_
      refine To.nil ?_
      refine To.thenN ?_
      refine To.ret ?_
      refine To.thenR ?_
      refine To.end1 (.inl rfl) Try.results25 rfl ?_
      unfold cmpI; rw [if_neg c16, if_pos c19]
    ·
      refine To.skip ?_
      refine To.thenN ?_
      refine To.seq ?_
      refine To.reg ?_
      refine To.rd rfl rfl rfl (Rd.assign rfl rfl) ?_
      refine To.nil ?_
      refine To.thenN ?_
      refine To.ret ?_
      refine To.end1 (.inl rfl) Try.results25 rfl ?_
      unfold cmpI; rw [if_neg c16, if_neg c19]
set_option maxHeartbeats 2000000 in
set_option maxRecDepth 100000 in
theorem cmp41 (a b : Int) :
    Does Try.prog 41 [.int .u8 a, .int .u8 b] [] (fun v _ => v = .int .i64 (cmpI a b)) := by
  refine Does.enter Try.func41 rfl Try.ntmps41 rfl (fun w0 => ?_)
  refine To.seq ?_
  refine To.reg ?_
  refine To.rd rfl rfl rfl (Rd.assign rfl rfl) ?_
  refine To.nil ?_
  refine To.thenN ?_
  refine To.seq ?_
  refine To.reg ?_
  refine To.rd rfl rfl rfl (Rd.move rfl rfl) ?_
  refine To.callV rfl rfl rfl (Ent.fn rfl rfl ca48) (nan48 a) rfl (oks_nil _) ?_
  refine To.rd rfl rfl rfl (Rd.assign rfl rfl) ?_
  refine To.nil ?_
  refine To.thenN ?_
  refine To.seq ?_
  refine To.reg ?_
  refine To.rd rfl rfl rfl (Rd.move rfl rfl) ?_
  refine To.callV rfl rfl rfl (Ent.fn rfl rfl ca48) (nan48 b) rfl (oks_nil _) ?_
  refine To.rd rfl rfl rfl (Rd.assign rfl rfl) ?_
  refine To.nil ?_
  refine To.thenN ?_
  refine To.seq ?_
  refine To.seq ?_
  refine To.reg ?_
  refine To.rd rfl rfl rfl (Rd.move rfl rfl) ?_
  refine To.nil ?_
  refine To.thenN ?_
  refine To.condF rfl ?_
  refine To.skip ?_
  refine To.thenN ?_
  refine To.seq ?_
  refine To.seq ?_
  refine To.reg ?_
  refine To.rd rfl rfl rfl (Rd.move rfl rfl) ?_
  refine To.nil ?_
  refine To.thenN ?_
  refine To.condF rfl ?_
  refine To.skip ?_
  refine To.thenN ?_
  refine To.seq ?_
  refine To.seq ?_
  refine To.reg ?_
  refine To.rd rfl rfl rfl (Rd.move rfl rfl) ?_
  refine To.rd rfl rfl rfl (Rd.move rfl rfl) ?_
  refine To.rd rfl rfl rfl (Rd.lss rfl rfl rfl) ?_
  refine To.nil ?_
  refine To.thenN ?_
  refine To.condP rfl (fun c16 => ?_) (fun c16 => ?_)
  ·
    refine To.seq ?_
    refine To.reg ?_
    refine To.rd rfl rfl rfl (Rd.assign rfl rfl) ?_
    refine To.nil ?_
    refine To.thenN ?_
    refine To.ret ?_
    refine To.thenR ?_
    refine To.end1 (.inl rfl) Try.results41 rfl ?_
    unfold cmpI; rw [if_pos c16]
  ·
    refine To.skip ?_
    refine To.thenN ?_
    refine To.seq ?_
    refine To.seq ?_
    refine To.reg ?_
    refine To.rd rfl rfl rfl (Rd.move rfl rfl) ?_
    refine To.rd rfl rfl rfl (Rd.move rfl rfl) ?_
    refine To.rd rfl rfl rfl (Rd.gtr rfl rfl rfl) ?_
    refine To.nil ?_
    refine To.thenN ?_
    refine To.condP rfl (fun c19 => ?_) (fun c19 => ?_)
    ·
      refine To.seq ?_
      refine To.reg ?_
      refine To.rd rfl rfl rfl (Rd.assign rfl rfl) ?_
      refine To.nil ?_
      refine To.thenN ?_
      refine To.ret ?_
      refine To.thenR ?_
      refine To.end1 (.inl rfl) Try.results41 rfl ?_
      unfold cmpI; rw [if_neg c16, if_pos c19]
    ·
      refine To.skip ?_
      refine To.thenN ?_
      refine To.seq ?_
      refine To.reg ?_
      refine To.rd rfl rfl rfl (Rd.assign rfl rfl) ?_
      refine To.nil ?_
      refine To.thenN ?_
      refine To.ret ?_
      refine To.end1 (.inl rfl) Try.results41 rfl ?_
      unfold cmpI; rw [if_neg c16, if_neg c19]
set_option maxHeartbeats 2000000 in
set_option maxRecDepth 100000 in
theorem or_fn (A : Option Addr) (ca : Nat) (l : List Int) (hl : l.length ≤ 1000000000000) :
    Does Try.prog 24 [.slice A l.length ca] [ros encI A l] (fun v _ => v = .int .i64 (orL l)) := by
  refine Does.enter Try.func24 rfl Try.ntmps24 rfl (fun w0 => ?_)
  refine To.seq ?_
  refine To.reg ?_
  refine To.rd rfl rfl rfl (Rd.assign rfl rfl) ?_
  refine To.nil ?_
  refine To.thenN ?_
  refine To.seq ?_
  refine To.reg ?_
  refine To.rd rfl rfl rfl (Rd.assign rfl rfl) ?_
  refine To.nil ?_
  refine To.thenN ?_
  refine To.seq ?_
  refine To.seq ?_
  refine To.reg ?_
  refine To.rd rfl rfl rfl (Rd.move rfl rfl) ?_
  refine To.rd rfl rfl rfl (Rd.len rfl rfl Try.underlying74) ?_
  refine To.rd rfl rfl rfl (Rd.move rfl rfl) ?_
  refine To.nil ?_
  refine To.thenN ?_
  refine To.block ?_
  refine To.sub [(3, .int .i64 0), (6, .slice A l.length ca), (7, .int .i64 ((l.length : Nat) : Int)), (8, .int .i64 ((0 : Nat) : Int))] ⟨rfl, rfl, rfl, rfl, trivial⟩ ?_
  refine To.only [0] rfl ?_
  refine To.loop (fun mz ρ Γ => ∃ (i : Nat), ρ = [(3, .int .i64 0), (6, .slice A l.length ca), (7, .int .i64 ((l.length : Nat) : Int)), (8, .int .i64 ((i : Nat) : Int))] ∧ Γ = [ros encI A l] ∧ mz = l.length - i ∧ (i ≤ l.length) ∧ (orL l = orL (l.drop i))) (l.length - 0) ⟨0, rfl, rfl, rfl, (Nat.zero_le _), rfl⟩ ?_
  rintro mz _ _ ⟨i, rfl, rfl, rfl, hi, hI⟩
  refine To.seq ?_
  refine To.reg ?_
  refine To.rd rfl rfl rfl (Rd.lss rfl rfl rfl) ?_
  refine To.nil ?_
  refine To.thenN ?_
  refine To.seq ?_
  refine To.condP rfl (fun c9 => ?_) (fun c9 => ?_)
  ·
    obtain ⟨x, hx⟩ : ∃ z0, l[i]? = some z0 := ⟨l[i]'(by omega), List.getElem?_eq_getElem _⟩
    refine To.skip ?_
    refine To.thenN ?_
    refine To.seq ?_
    refine To.block ?_
    refine To.seq ?_
    refine To.reg ?_
    refine To.rd rfl rfl rfl (Rd.indexRos encI_ok (i := 0) (j := i) rfl rfl rfl s74 rfl hx) ?_
    refine To.rd rfl rfl rfl (Rd.load (i := 0) rfl rfl c3 rfl (gives_1 (ros_gives encI_ok hx) rfl)) ?_
    refine To.rd rfl rfl rfl (Rd.assign rfl rfl) ?_
    refine To.nil ?_
    refine To.thenN ?_
    refine To.seq ?_
    refine To.reg ?_
    refine To.rd rfl rfl rfl (Rd.move rfl rfl) ?_
    refine To.rd rfl rfl rfl (Rd.move rfl rfl) ?_
    refine To.rd rfl rfl rfl (Rd.neq rfl rfl rfl) ?_
    refine To.nil ?_
    refine To.thenN ?_
    refine To.condP rfl (fun c14 => ?_) (fun c14 => ?_)
    ·
      refine To.seq ?_
      refine To.reg ?_
      refine To.rd rfl rfl rfl (Rd.move rfl rfl) ?_
      refine To.rd rfl rfl rfl (Rd.assign rfl rfl) ?_
      refine To.nil ?_
      refine To.thenN ?_
      refine To.ret ?_
      refine To.blockR ?_
      refine To.thenR ?_
      refine To.thenR ?_
      refine To.blockR ?_
      refine To.thenR ?_
      refine To.end1 (.inl rfl) Try.results24 rfl ?_
      rw [hI, drop_of_get hx]; exact congrArg _ (if_neg (by simpa using c14)).symm
    ·
      refine To.skip ?_
      refine To.blockN ?_
      refine To.thenN ?_
      refine To.reg ?_
      refine To.rd rfl rfl rfl (Rd.inc rfl rfl rfl (by omega)) ?_
      refine To.rd rfl rfl rfl (Rd.move rfl rfl) ?_
      refine To.nil ?_
      refine To.thenN ?_
      refine To.sub [(3, .int .i64 0), (6, .slice A l.length ca), (7, .int .i64 ((l.length : Nat) : Int)), (8, .int .i64 (((i + 1) : Nat) : Int))] ⟨rfl, rfl, rfl, rfl, trivial⟩ ?_
      refine To.only [0] rfl ?_
      refine To.again (l.length - (i + 1)) (by omega) ⟨i + 1, rfl, rfl, rfl, (by omega), (by rw [hI, drop_of_get hx]; exact if_pos (by simpa using c14))⟩
  ·
    refine To.exit ?_
    refine To.thenX ?_
    refine To.thenX ?_
    refine To.blockX ?_
    refine To.thenN ?_
    refine To.seq ?_
    refine To.reg ?_
    refine To.rd rfl rfl rfl (Rd.move rfl rfl) ?_
    refine To.rd rfl rfl rfl (Rd.assign rfl rfl) ?_
    refine To.nil ?_
    refine To.thenN ?_
    refine To.ret ?_
    refine To.end1 (.inl rfl) Try.results24 rfl ?_
    rw [hI, List.drop_eq_nil_of_le (by omega)]; rfl
set_option maxHeartbeats 2000000 in
set_option maxRecDepth 100000 in
theorem len64_fn (n : Nat) (hn : n < 256) :
    Does Try.prog 60 [.int .u64 ((n : Nat) : Int)] [] (fun v Γ' => ∃ k : Int, v = .int .i64 k ∧ Γ' = []) := by
  refine Does.enter Try.func60 rfl Try.ntmps60 rfl (fun w0 => ?_)
  refine To.seq ?_
  refine To.reg ?_
  refine To.rd rfl rfl rfl (Rd.assign rfl rfl) ?_
  refine To.nil ?_
  refine To.thenN ?_
  refine To.seq ?_
  refine To.seq ?_
  refine To.reg ?_
  refine To.rd rfl rfl rfl (Rd.move rfl rfl) ?_
  refine To.rd rfl rfl rfl (Rd.geq rfl rfl rfl) ?_
  refine To.nil ?_
  refine To.thenN ?_
  refine To.condP rfl (fun c4 => ?_) (fun c4 => ?_)
  ·
    exact absurd c4 (by omega)
  ·
    refine To.skip ?_
    refine To.thenN ?_
    refine To.seq ?_
    refine To.seq ?_
    refine To.reg ?_
    refine To.rd rfl rfl rfl (Rd.move rfl rfl) ?_
    refine To.rd rfl rfl rfl (Rd.geq rfl rfl rfl) ?_
    refine To.nil ?_
    refine To.thenN ?_
    refine To.condP rfl (fun c8 => ?_) (fun c8 => ?_)
    ·
      exact absurd c8 (by omega)
    ·
      refine To.skip ?_
      refine To.thenN ?_
      refine To.seq ?_
      refine To.seq ?_
      refine To.reg ?_
      refine To.rd rfl rfl rfl (Rd.move rfl rfl) ?_
      refine To.rd rfl rfl rfl (Rd.geq rfl rfl rfl) ?_
      refine To.nil ?_
      refine To.thenN ?_
      refine To.condP rfl (fun c14 => ?_) (fun c14 => ?_)
      ·
        exact absurd c14 (by omega)
      ·
        refine To.skip ?_
        refine To.thenN ?_
        refine To.seq ?_
        refine To.reg ?_
        refine To.rd rfl rfl rfl (Rd.move rfl rfl) ?_
        refine To.rd rfl rfl rfl (Rd.move rfl rfl) ?_
        refine To.rd rfl rfl rfl (Rd.conv rfl rfl Try.underlying98 Try.underlying5 (IntWalk.u8_in _ (by omega))) ?_
        refine To.letter (j := n) rfl rfl rfl rfl Try.underlying9 rfl rfl (by show n < 256; exact hn) (fun n22 hn22 => ?_)
        refine To.rd rfl rfl rfl (Rd.conv rfl rfl Try.underlying5 Try.underlying3 (IntWalk.i64_in _ (by omega))) ?_
        refine To.rd rfl rfl rfl (Rd.add64 rfl rfl rfl (by omega)) ?_
        refine To.rd rfl rfl rfl (Rd.assign rfl rfl) ?_
        refine To.nil ?_
        refine To.thenN ?_
        refine To.ret ?_
        refine To.only [] rfl ?_
        refine To.end1 (.inl rfl) Try.results60 rfl ?_
        exact ⟨_, rfl, rfl⟩
set_option maxHeartbeats 2000000 in
set_option maxRecDepth 100000 in
theorem blen_fn (n : Nat) (hn : n < 256) :
    Does Try.prog 46 [.int .u64 ((n : Nat) : Int)] [] (fun v Γ' => ∃ k : Int, v = .int .i64 k ∧ Γ' = []) := by
  refine Does.enter Try.func46 rfl Try.ntmps46 rfl (fun w0 => ?_)
  refine To.seq ?_
  refine To.reg ?_
  refine To.rd rfl rfl rfl (Rd.assign rfl rfl) ?_
  refine To.nil ?_
  refine To.thenN ?_
  refine To.seq ?_
  refine To.condF rfl ?_
  refine To.skip ?_
  refine To.thenN ?_
  refine To.seq ?_
  refine To.reg ?_
  refine To.rd rfl rfl rfl (Rd.move rfl rfl) ?_
  refine To.callQ rfl rfl rfl (Ent.fn rfl rfl ca60) (len64_fn n (by omega)) rfl (oks_nil _) ?_
  rintro _ _ ⟨k1, rfl, rfl⟩
  refine ⟨rfl, ?_⟩
  refine To.as [] rfl ?_
  refine To.rd rfl rfl rfl (Rd.assign rfl rfl) ?_
  refine To.nil ?_
  refine To.thenN ?_
  refine To.ret ?_
  refine To.only [] rfl ?_
  refine To.end1 (.inl rfl) Try.results46 rfl ?_
  exact ⟨_, rfl, rfl⟩
set_option maxHeartbeats 2000000 in
set_option maxRecDepth 100000 in
theorem ckey_fn (x y : Ky) :
    Does Try.prog 29 [.agg (Ky.cells x).toArray, .agg (Ky.cells y).toArray] [] (fun v _ => v = .int .i64 (x.cmp y)) := by
  refine Does.enter Try.func29 rfl Try.ntmps29 rfl (fun w0 => ?_)
  refine To.seq ?_
  refine To.reg ?_
  refine To.boxed rfl rfl rfl rfl rfl rfl (fun b2 => ?_)
  refine To.boxed rfl rfl rfl rfl rfl rfl (fun b3 => ?_)
  refine To.rd rfl rfl rfl (Rd.assign rfl rfl) ?_
  refine To.nil ?_
  refine To.thenN ?_
  refine To.seq ?_
  refine To.flow [box b3 [.int .u8 y.k, .int .i64 y.a, .int .i64 y.b, .int .i64 y.n] 37, box b2 [.int .u8 x.k, .int .i64 x.a, .int .i64 x.b, .int .i64 x.n] 37] [⟨0, [], 0⟩, ⟨2, [], 0⟩, ⟨5, [], 0⟩, ⟨7, [], 0⟩, ⟨10, [], 0⟩, ⟨12, [], 0⟩, ⟨15, [], 0⟩, ⟨17, [], 0⟩, ⟨1, [], 1⟩, ⟨3, [], 1⟩, ⟨4, [], 3⟩, ⟨6, [], 1⟩, ⟨8, [], 1⟩, ⟨9, [], 3⟩, ⟨11, [], 1⟩, ⟨13, [], 1⟩, ⟨14, [], 3⟩, ⟨16, [], 1⟩, ⟨18, [], 1⟩, ⟨19, [], 3⟩, ⟨20, [], 2⟩, ⟨21, [20], 3⟩, ⟨22, [20], 0⟩] mixed (by kernel_rfl) (oks_cons (oks_at 0 rfl) (oks_cons (oks_at 1 rfl) (oks_nil _))) ?_
  refine FlowS.free rfl rfl rfl rfl (Rd.field rfl rfl fl37_0) ?_
  refine FlowS.free rfl rfl rfl rfl (Rd.field rfl rfl fl37_0) ?_
  refine FlowS.free rfl rfl rfl rfl (Rd.field rfl rfl fl37_1) ?_
  refine FlowS.free rfl rfl rfl rfl (Rd.field rfl rfl fl37_1) ?_
  refine FlowS.free rfl rfl rfl rfl (Rd.field rfl rfl fl37_2) ?_
  refine FlowS.free rfl rfl rfl rfl (Rd.field rfl rfl fl37_2) ?_
  refine FlowS.free rfl rfl rfl rfl (Rd.field rfl rfl fl37_3) ?_
  refine FlowS.free rfl rfl rfl rfl (Rd.field rfl rfl fl37_3) ?_
  refine FlowS.rd rfl rfl rfl rfl (Rd.load (i := 1) rfl rfl c35 rfl (box_gives1 rfl)) ?_
  refine FlowS.rd rfl rfl rfl rfl (Rd.load (i := 0) rfl rfl c35 rfl (box_gives1 rfl)) ?_
  refine FlowS.callQ rfl rfl rfl rfl (Ent.fn rfl rfl ca41) (cmp41 x.k y.k) rfl (oks_nil _) ?_
  refine FlowS.rd rfl rfl rfl rfl (Rd.load (i := 1) rfl rfl c3 rfl (box_gives1 rfl)) ?_
  refine FlowS.rd rfl rfl rfl rfl (Rd.load (i := 0) rfl rfl c3 rfl (box_gives1 rfl)) ?_
  refine FlowS.callQ rfl rfl rfl rfl (Ent.fn rfl rfl ca25) (cmp25 x.a y.a) rfl (oks_nil _) ?_
  refine FlowS.rd rfl rfl rfl rfl (Rd.load (i := 1) rfl rfl c3 rfl (box_gives1 rfl)) ?_
  refine FlowS.rd rfl rfl rfl rfl (Rd.load (i := 0) rfl rfl c3 rfl (box_gives1 rfl)) ?_
  refine FlowS.callQ rfl rfl rfl rfl (Ent.fn rfl rfl ca25) (cmp25 x.b y.b) rfl (oks_nil _) ?_
  refine FlowS.rd rfl rfl rfl rfl (Rd.load (i := 1) rfl rfl c3 rfl (box_gives1 rfl)) ?_
  refine FlowS.rd rfl rfl rfl rfl (Rd.load (i := 0) rfl rfl c3 rfl (box_gives1 rfl)) ?_
  refine FlowS.callQ rfl rfl rfl rfl (Ent.fn rfl rfl ca25) (cmp25 x.n y.n) rfl (oks_nil _) ?_
  refine FlowS.mk rfl rfl rfl rfl rfl (Mk.sliceN (us := [.int .i64 (cmpI x.k y.k), .int .i64 (cmpI x.a y.a), .int .i64 (cmpI x.b y.b), .int .i64 (cmpI x.n y.n)]) rfl s74 rfl rfl rfl rfl rfl rfl) ?_
  rintro _ _ ⟨b25, rfl, rfl⟩
  refine FlowS.callQ rfl rfl rfl rfl (Ent.fn rfl rfl ca24) (or_fn (some ⟨b25, 0, none⟩) 4 [cmpI x.k y.k, cmpI x.a y.a, cmpI x.b y.b, cmpI x.n y.n] (show 4 ≤ 1000000000000 by decide)) rfl (oks_cons (oks_row 0 rfl) (oks_nil _)) ?_
  refine FlowS.free rfl rfl rfl rfl (Rd.assign rfl rfl) ?_
  refine FlowS.fin ?_
  refine To.as [row 3 1 (some ⟨b25, 0, none⟩) 4 4 [.int .i64 (cmpI x.k y.k), .int .i64 (cmpI x.a y.a), .int .i64 (cmpI x.b y.b), .int .i64 (cmpI x.n y.n)], box b3 [.int .u8 y.k, .int .i64 y.a, .int .i64 y.b, .int .i64 y.n] 37, box b2 [.int .u8 x.k, .int .i64 x.a, .int .i64 x.b, .int .i64 x.n] 37] rfl ?_
  refine To.sub [(0, .agg (Ky.cells x).toArray), (1, .agg (Ky.cells y).toArray), (2, .pointer (some ⟨b2, 0, none⟩)), (3, .pointer (some ⟨b3, 0, none⟩)), (4, .int .i64 (orL [cmpI x.k y.k, cmpI x.a y.a, cmpI x.b y.b, cmpI x.n y.n]))] ⟨rfl, rfl, rfl, rfl, rfl, trivial⟩ ?_
  refine To.thenN ?_
  refine To.ret ?_
  refine To.end1 (.inl rfl) Try.results29 rfl ?_
  rfl
set_option maxHeartbeats 2000000 in
set_option maxRecDepth 100000 in
theorem cmsg_fn (x y : Ms) :
    Does Try.prog 23 [.agg (Ms.cells x).toArray, .agg (Ms.cells y).toArray] [] (fun v _ => v = .int .i64 (x.cmp y)) := by
  refine Does.enter Try.func23 rfl Try.ntmps23 rfl (fun w0 => ?_)
  refine To.seq ?_
  refine To.reg ?_
  refine To.boxed rfl rfl rfl rfl rfl rfl (fun b2 => ?_)
  refine To.boxed rfl rfl rfl rfl rfl rfl (fun b3 => ?_)
  refine To.rd rfl rfl rfl (Rd.assign rfl rfl) ?_
  refine To.nil ?_
  refine To.thenN ?_
  refine To.seq ?_
  refine To.flow [box b3 [.int .i64 y.f, .int .i64 y.t, .int .i64 y.n] 33, box b2 [.int .i64 x.f, .int .i64 x.t, .int .i64 x.n] 33] [⟨0, [], 0⟩, ⟨2, [], 0⟩, ⟨5, [], 0⟩, ⟨7, [], 0⟩, ⟨10, [], 0⟩, ⟨12, [], 0⟩, ⟨1, [], 1⟩, ⟨3, [], 1⟩, ⟨4, [], 3⟩, ⟨6, [], 1⟩, ⟨8, [], 1⟩, ⟨9, [], 3⟩, ⟨11, [], 1⟩, ⟨13, [], 1⟩, ⟨14, [], 3⟩, ⟨15, [], 2⟩, ⟨16, [15], 3⟩, ⟨17, [15], 0⟩] mixed (by kernel_rfl) (oks_cons (oks_at 0 rfl) (oks_cons (oks_at 1 rfl) (oks_nil _))) ?_
  refine FlowS.free rfl rfl rfl rfl (Rd.field rfl rfl fl33_0) ?_
  refine FlowS.free rfl rfl rfl rfl (Rd.field rfl rfl fl33_0) ?_
  refine FlowS.free rfl rfl rfl rfl (Rd.field rfl rfl fl33_1) ?_
  refine FlowS.free rfl rfl rfl rfl (Rd.field rfl rfl fl33_1) ?_
  refine FlowS.free rfl rfl rfl rfl (Rd.field rfl rfl fl33_2) ?_
  refine FlowS.free rfl rfl rfl rfl (Rd.field rfl rfl fl33_2) ?_
  refine FlowS.rd rfl rfl rfl rfl (Rd.load (i := 1) rfl rfl c3 rfl (box_gives1 rfl)) ?_
  refine FlowS.rd rfl rfl rfl rfl (Rd.load (i := 0) rfl rfl c3 rfl (box_gives1 rfl)) ?_
  refine FlowS.callQ rfl rfl rfl rfl (Ent.fn rfl rfl ca25) (cmp25 x.f y.f) rfl (oks_nil _) ?_
  refine FlowS.rd rfl rfl rfl rfl (Rd.load (i := 1) rfl rfl c3 rfl (box_gives1 rfl)) ?_
  refine FlowS.rd rfl rfl rfl rfl (Rd.load (i := 0) rfl rfl c3 rfl (box_gives1 rfl)) ?_
  refine FlowS.callQ rfl rfl rfl rfl (Ent.fn rfl rfl ca25) (cmp25 x.t y.t) rfl (oks_nil _) ?_
  refine FlowS.rd rfl rfl rfl rfl (Rd.load (i := 1) rfl rfl c3 rfl (box_gives1 rfl)) ?_
  refine FlowS.rd rfl rfl rfl rfl (Rd.load (i := 0) rfl rfl c3 rfl (box_gives1 rfl)) ?_
  refine FlowS.callQ rfl rfl rfl rfl (Ent.fn rfl rfl ca25) (cmp25 x.n y.n) rfl (oks_nil _) ?_
  refine FlowS.mk rfl rfl rfl rfl rfl (Mk.sliceN (us := [.int .i64 (cmpI x.f y.f), .int .i64 (cmpI x.t y.t), .int .i64 (cmpI x.n y.n)]) rfl s74 rfl rfl rfl rfl rfl rfl) ?_
  rintro _ _ ⟨b20, rfl, rfl⟩
  refine FlowS.callQ rfl rfl rfl rfl (Ent.fn rfl rfl ca24) (or_fn (some ⟨b20, 0, none⟩) 3 [cmpI x.f y.f, cmpI x.t y.t, cmpI x.n y.n] (show 3 ≤ 1000000000000 by decide)) rfl (oks_cons (oks_row 0 rfl) (oks_nil _)) ?_
  refine FlowS.free rfl rfl rfl rfl (Rd.assign rfl rfl) ?_
  refine FlowS.fin ?_
  refine To.as [row 3 1 (some ⟨b20, 0, none⟩) 3 3 [.int .i64 (cmpI x.f y.f), .int .i64 (cmpI x.t y.t), .int .i64 (cmpI x.n y.n)], box b3 [.int .i64 y.f, .int .i64 y.t, .int .i64 y.n] 33, box b2 [.int .i64 x.f, .int .i64 x.t, .int .i64 x.n] 33] rfl ?_
  refine To.sub [(0, .agg (Ms.cells x).toArray), (1, .agg (Ms.cells y).toArray), (2, .pointer (some ⟨b2, 0, none⟩)), (3, .pointer (some ⟨b3, 0, none⟩)), (4, .int .i64 (orL [cmpI x.f y.f, cmpI x.t y.t, cmpI x.n y.n]))] ⟨rfl, rfl, rfl, rfl, rfl, trivial⟩ ?_
  refine To.thenN ?_
  refine To.ret ?_
  refine To.end1 (.inl rfl) Try.results23 rfl ?_
  rfl
set_option maxHeartbeats 2000000 in
set_option maxRecDepth 100000 in
theorem lessK_fn (x y : Ky) :
    Does Try.prog 12 [.agg (Ky.cells x).toArray, .agg (Ky.cells y).toArray] [] (fun v _ => v = .bool (decide (x.cmp y < 0))) := by
  refine Does.enter Try.func12 rfl Try.ntmps12 rfl (fun w0 => ?_)
  refine To.seq ?_
  refine To.reg ?_
  refine To.boxed rfl rfl rfl rfl rfl rfl (fun b2 => ?_)
  refine To.boxed rfl rfl rfl rfl rfl rfl (fun b3 => ?_)
  refine To.rd rfl rfl rfl (Rd.assign rfl rfl) ?_
  refine To.nil ?_
  refine To.thenN ?_
  refine To.seq ?_
  refine To.reg ?_
  refine To.rd rfl rfl rfl (Rd.loadS (i := 1) rfl rfl r37 rfl box_whole rfl) ?_
  refine To.rd rfl rfl rfl (Rd.loadS (i := 0) rfl rfl r37 rfl box_whole rfl) ?_
  refine To.callV rfl rfl rfl (Ent.fn rfl rfl ca29) (ckey_fn x y) rfl (oks_nil _) ?_
  refine To.rd rfl rfl rfl (Rd.lss rfl rfl rfl) ?_
  refine To.rd rfl rfl rfl (Rd.assign rfl rfl) ?_
  refine To.nil ?_
  refine To.thenN ?_
  refine To.ret ?_
  refine To.end1 (.inl rfl) Try.results12 rfl ?_
  rfl
set_option maxHeartbeats 2000000 in
set_option maxRecDepth 100000 in
theorem lessM_fn (x y : Ms) :
    Does Try.prog 10 [.agg (Ms.cells x).toArray, .agg (Ms.cells y).toArray] [] (fun v _ => v = .bool (decide (x.cmp y < 0))) := by
  refine Does.enter Try.func10 rfl Try.ntmps10 rfl (fun w0 => ?_)
  refine To.seq ?_
  refine To.reg ?_
  refine To.boxed rfl rfl rfl rfl rfl rfl (fun b2 => ?_)
  refine To.boxed rfl rfl rfl rfl rfl rfl (fun b3 => ?_)
  refine To.rd rfl rfl rfl (Rd.assign rfl rfl) ?_
  refine To.nil ?_
  refine To.thenN ?_
  refine To.seq ?_
  refine To.reg ?_
  refine To.rd rfl rfl rfl (Rd.loadS (i := 1) rfl rfl r33 rfl box_whole rfl) ?_
  refine To.rd rfl rfl rfl (Rd.loadS (i := 0) rfl rfl r33 rfl box_whole rfl) ?_
  refine To.callV rfl rfl rfl (Ent.fn rfl rfl ca23) (cmsg_fn x y) rfl (oks_nil _) ?_
  refine To.rd rfl rfl rfl (Rd.lss rfl rfl rfl) ?_
  refine To.rd rfl rfl rfl (Rd.assign rfl rfl) ?_
  refine To.nil ?_
  refine To.thenN ?_
  refine To.ret ?_
  refine To.end1 (.inl rfl) Try.results10 rfl ?_
  rfl
set_option maxHeartbeats 2000000 in
set_option maxRecDepth 100000 in
theorem rlessK_fn (x y : Ky) :
    Does Try.prog 28 [.agg (Ky.cells x).toArray, .agg (Ky.cells y).toArray] [] (fun v _ => v = .bool (decide (x.cmp y < 0))) := by
  refine Does.enter Try.func28 rfl Try.ntmps28 rfl (fun w0 => ?_)
  refine To.seq ?_
  refine To.reg ?_
  refine To.boxed rfl rfl rfl rfl rfl rfl (fun b2 => ?_)
  refine To.boxed rfl rfl rfl rfl rfl rfl (fun b3 => ?_)
  refine To.rd rfl rfl rfl (Rd.assign rfl rfl) ?_
  refine To.nil ?_
  refine To.thenN ?_
  refine To.seq ?_
  refine To.seq ?_
  refine To.reg ?_
  refine To.rd rfl rfl rfl (Rd.field rfl rfl fl37_0) ?_
  refine To.rd rfl rfl rfl (Rd.load (i := 1) rfl rfl c35 rfl (box_gives1 rfl)) ?_
  refine To.rd rfl rfl rfl (Rd.field rfl rfl fl37_0) ?_
  refine To.rd rfl rfl rfl (Rd.load (i := 0) rfl rfl c35 rfl (box_gives1 rfl)) ?_
  refine To.rd rfl rfl rfl (Rd.neq rfl rfl rfl) ?_
  refine To.nil ?_
  refine To.thenN ?_
  refine To.condP rfl (fun c9 => ?_) (fun c9 => ?_)
  ·
    refine To.seq ?_
    refine To.reg ?_
    refine To.rd rfl rfl rfl (Rd.field rfl rfl fl37_0) ?_
    refine To.rd rfl rfl rfl (Rd.load (i := 1) rfl rfl c35 rfl (box_gives1 rfl)) ?_
    refine To.rd rfl rfl rfl (Rd.field rfl rfl fl37_0) ?_
    refine To.rd rfl rfl rfl (Rd.load (i := 0) rfl rfl c35 rfl (box_gives1 rfl)) ?_
    refine To.rd rfl rfl rfl (Rd.lss rfl rfl rfl) ?_
    refine To.rd rfl rfl rfl (Rd.assign rfl rfl) ?_
    refine To.nil ?_
    refine To.thenN ?_
    refine To.ret ?_
    refine To.thenR ?_
    refine To.end1 (.inl rfl) Try.results28 rfl ?_
    refine congrArg Value.bool (decide_eq_decide.2 ?_)
    rw [Ky.lt_iff]; simp [c9]
  ·
    refine To.skip ?_
    refine To.thenN ?_
    refine To.seq ?_
    refine To.seq ?_
    refine To.reg ?_
    refine To.rd rfl rfl rfl (Rd.field rfl rfl fl37_1) ?_
    refine To.rd rfl rfl rfl (Rd.load (i := 1) rfl rfl c3 rfl (box_gives1 rfl)) ?_
    refine To.rd rfl rfl rfl (Rd.field rfl rfl fl37_1) ?_
    refine To.rd rfl rfl rfl (Rd.load (i := 0) rfl rfl c3 rfl (box_gives1 rfl)) ?_
    refine To.rd rfl rfl rfl (Rd.neq rfl rfl rfl) ?_
    refine To.nil ?_
    refine To.thenN ?_
    refine To.condP rfl (fun c19 => ?_) (fun c19 => ?_)
    ·
      refine To.seq ?_
      refine To.reg ?_
      refine To.rd rfl rfl rfl (Rd.field rfl rfl fl37_1) ?_
      refine To.rd rfl rfl rfl (Rd.load (i := 1) rfl rfl c3 rfl (box_gives1 rfl)) ?_
      refine To.rd rfl rfl rfl (Rd.field rfl rfl fl37_1) ?_
      refine To.rd rfl rfl rfl (Rd.load (i := 0) rfl rfl c3 rfl (box_gives1 rfl)) ?_
      refine To.rd rfl rfl rfl (Rd.lss rfl rfl rfl) ?_
      refine To.rd rfl rfl rfl (Rd.assign rfl rfl) ?_
      refine To.nil ?_
      refine To.sub [(0, .agg (Ky.cells x).toArray), (1, .agg (Ky.cells y).toArray), (2, .pointer (some ⟨b2, 0, none⟩)), (3, .pointer (some ⟨b3, 0, none⟩)), (4, .bool (decide (x.a < y.a))), (9, .bool (decide (x.k ≠ y.k))), (19, .bool (decide (x.a ≠ y.a)))] ⟨rfl, rfl, rfl, rfl, rfl, rfl, rfl, trivial⟩ ?_
      refine To.thenN ?_
      refine To.ret ?_
      refine To.thenR ?_
      refine To.end1 (.inl rfl) Try.results28 rfl ?_
      refine congrArg Value.bool (decide_eq_decide.2 ?_)
      rw [Ky.lt_iff]; simp [c9, c19]
    ·
      refine To.skip ?_
      refine To.thenN ?_
      refine To.seq ?_
      refine To.seq ?_
      refine To.reg ?_
      refine To.rd rfl rfl rfl (Rd.field rfl rfl fl37_2) ?_
      refine To.rd rfl rfl rfl (Rd.load (i := 1) rfl rfl c3 rfl (box_gives1 rfl)) ?_
      refine To.rd rfl rfl rfl (Rd.field rfl rfl fl37_2) ?_
      refine To.rd rfl rfl rfl (Rd.load (i := 0) rfl rfl c3 rfl (box_gives1 rfl)) ?_
      refine To.rd rfl rfl rfl (Rd.neq rfl rfl rfl) ?_
      refine To.nil ?_
      refine To.thenN ?_
      refine To.condP rfl (fun c29 => ?_) (fun c29 => ?_)
      ·
        refine To.seq ?_
        refine To.reg ?_
        refine To.rd rfl rfl rfl (Rd.field rfl rfl fl37_2) ?_
        refine To.rd rfl rfl rfl (Rd.load (i := 1) rfl rfl c3 rfl (box_gives1 rfl)) ?_
        refine To.rd rfl rfl rfl (Rd.field rfl rfl fl37_2) ?_
        refine To.rd rfl rfl rfl (Rd.load (i := 0) rfl rfl c3 rfl (box_gives1 rfl)) ?_
        refine To.rd rfl rfl rfl (Rd.lss rfl rfl rfl) ?_
        refine To.rd rfl rfl rfl (Rd.assign rfl rfl) ?_
        refine To.nil ?_
        refine To.sub [(0, .agg (Ky.cells x).toArray), (1, .agg (Ky.cells y).toArray), (2, .pointer (some ⟨b2, 0, none⟩)), (3, .pointer (some ⟨b3, 0, none⟩)), (4, .bool (decide (x.b < y.b))), (9, .bool (decide (x.k ≠ y.k))), (19, .bool (decide (x.a ≠ y.a))), (29, .bool (decide (x.b ≠ y.b)))] ⟨rfl, rfl, rfl, rfl, rfl, rfl, rfl, rfl, trivial⟩ ?_
        refine To.thenN ?_
        refine To.ret ?_
        refine To.thenR ?_
        refine To.end1 (.inl rfl) Try.results28 rfl ?_
        refine congrArg Value.bool (decide_eq_decide.2 ?_)
        rw [Ky.lt_iff]; simp [c9, c19, c29]
      ·
        refine To.skip ?_
        refine To.thenN ?_
        refine To.seq ?_
        refine To.reg ?_
        refine To.rd rfl rfl rfl (Rd.field rfl rfl fl37_3) ?_
        refine To.rd rfl rfl rfl (Rd.load (i := 1) rfl rfl c3 rfl (box_gives1 rfl)) ?_
        refine To.rd rfl rfl rfl (Rd.field rfl rfl fl37_3) ?_
        refine To.rd rfl rfl rfl (Rd.load (i := 0) rfl rfl c3 rfl (box_gives1 rfl)) ?_
        refine To.rd rfl rfl rfl (Rd.lss rfl rfl rfl) ?_
        refine To.rd rfl rfl rfl (Rd.assign rfl rfl) ?_
        refine To.nil ?_
        refine To.sub [(0, .agg (Ky.cells x).toArray), (1, .agg (Ky.cells y).toArray), (2, .pointer (some ⟨b2, 0, none⟩)), (3, .pointer (some ⟨b3, 0, none⟩)), (4, .bool (decide (x.n < y.n))), (9, .bool (decide (x.k ≠ y.k))), (19, .bool (decide (x.a ≠ y.a))), (29, .bool (decide (x.b ≠ y.b)))] ⟨rfl, rfl, rfl, rfl, rfl, rfl, rfl, rfl, trivial⟩ ?_
        refine To.thenN ?_
        refine To.ret ?_
        refine To.end1 (.inl rfl) Try.results28 rfl ?_
        refine congrArg Value.bool (decide_eq_decide.2 ?_)
        rw [Ky.lt_iff]; simp [c9, c19, c29]
set_option maxHeartbeats 2000000 in
set_option maxRecDepth 100000 in
theorem rlessM_fn (x y : Ms) :
    Does Try.prog 11 [.agg (Ms.cells x).toArray, .agg (Ms.cells y).toArray] [] (fun v _ => v = .bool (decide (x.cmp y < 0))) := by
  refine Does.enter Try.func11 rfl Try.ntmps11 rfl (fun w0 => ?_)
  refine To.seq ?_
  refine To.reg ?_
  refine To.boxed rfl rfl rfl rfl rfl rfl (fun b2 => ?_)
  refine To.boxed rfl rfl rfl rfl rfl rfl (fun b3 => ?_)
  refine To.rd rfl rfl rfl (Rd.assign rfl rfl) ?_
  refine To.nil ?_
  refine To.thenN ?_
  refine To.seq ?_
  refine To.seq ?_
  refine To.reg ?_
  refine To.rd rfl rfl rfl (Rd.field rfl rfl fl33_0) ?_
  refine To.rd rfl rfl rfl (Rd.load (i := 1) rfl rfl c3 rfl (box_gives1 rfl)) ?_
  refine To.rd rfl rfl rfl (Rd.field rfl rfl fl33_0) ?_
  refine To.rd rfl rfl rfl (Rd.load (i := 0) rfl rfl c3 rfl (box_gives1 rfl)) ?_
  refine To.rd rfl rfl rfl (Rd.neq rfl rfl rfl) ?_
  refine To.nil ?_
  refine To.thenN ?_
  refine To.condP rfl (fun c9 => ?_) (fun c9 => ?_)
  ·
    refine To.seq ?_
    refine To.reg ?_
    refine To.rd rfl rfl rfl (Rd.field rfl rfl fl33_0) ?_
    refine To.rd rfl rfl rfl (Rd.load (i := 1) rfl rfl c3 rfl (box_gives1 rfl)) ?_
    refine To.rd rfl rfl rfl (Rd.field rfl rfl fl33_0) ?_
    refine To.rd rfl rfl rfl (Rd.load (i := 0) rfl rfl c3 rfl (box_gives1 rfl)) ?_
    refine To.rd rfl rfl rfl (Rd.lss rfl rfl rfl) ?_
    refine To.rd rfl rfl rfl (Rd.assign rfl rfl) ?_
    refine To.nil ?_
    refine To.thenN ?_
    refine To.ret ?_
    refine To.thenR ?_
    refine To.end1 (.inl rfl) Try.results11 rfl ?_
    refine congrArg Value.bool (decide_eq_decide.2 ?_)
    rw [Ms.lt_iff]; simp [c9]
  ·
    refine To.skip ?_
    refine To.thenN ?_
    refine To.seq ?_
    refine To.seq ?_
    refine To.reg ?_
    refine To.rd rfl rfl rfl (Rd.field rfl rfl fl33_1) ?_
    refine To.rd rfl rfl rfl (Rd.load (i := 1) rfl rfl c3 rfl (box_gives1 rfl)) ?_
    refine To.rd rfl rfl rfl (Rd.field rfl rfl fl33_1) ?_
    refine To.rd rfl rfl rfl (Rd.load (i := 0) rfl rfl c3 rfl (box_gives1 rfl)) ?_
    refine To.rd rfl rfl rfl (Rd.neq rfl rfl rfl) ?_
    refine To.nil ?_
    refine To.thenN ?_
    refine To.condP rfl (fun c19 => ?_) (fun c19 => ?_)
    ·
      refine To.seq ?_
      refine To.reg ?_
      refine To.rd rfl rfl rfl (Rd.field rfl rfl fl33_1) ?_
      refine To.rd rfl rfl rfl (Rd.load (i := 1) rfl rfl c3 rfl (box_gives1 rfl)) ?_
      refine To.rd rfl rfl rfl (Rd.field rfl rfl fl33_1) ?_
      refine To.rd rfl rfl rfl (Rd.load (i := 0) rfl rfl c3 rfl (box_gives1 rfl)) ?_
      refine To.rd rfl rfl rfl (Rd.lss rfl rfl rfl) ?_
      refine To.rd rfl rfl rfl (Rd.assign rfl rfl) ?_
      refine To.nil ?_
      refine To.sub [(0, .agg (Ms.cells x).toArray), (1, .agg (Ms.cells y).toArray), (2, .pointer (some ⟨b2, 0, none⟩)), (3, .pointer (some ⟨b3, 0, none⟩)), (4, .bool (decide (x.t < y.t))), (9, .bool (decide (x.f ≠ y.f))), (19, .bool (decide (x.t ≠ y.t)))] ⟨rfl, rfl, rfl, rfl, rfl, rfl, rfl, trivial⟩ ?_
      refine To.thenN ?_
      refine To.ret ?_
      refine To.thenR ?_
      refine To.end1 (.inl rfl) Try.results11 rfl ?_
      refine congrArg Value.bool (decide_eq_decide.2 ?_)
      rw [Ms.lt_iff]; simp [c9, c19]
    ·
      refine To.skip ?_
      refine To.thenN ?_
      refine To.seq ?_
      refine To.reg ?_
      refine To.rd rfl rfl rfl (Rd.field rfl rfl fl33_2) ?_
      refine To.rd rfl rfl rfl (Rd.load (i := 1) rfl rfl c3 rfl (box_gives1 rfl)) ?_
      refine To.rd rfl rfl rfl (Rd.field rfl rfl fl33_2) ?_
      refine To.rd rfl rfl rfl (Rd.load (i := 0) rfl rfl c3 rfl (box_gives1 rfl)) ?_
      refine To.rd rfl rfl rfl (Rd.lss rfl rfl rfl) ?_
      refine To.rd rfl rfl rfl (Rd.assign rfl rfl) ?_
      refine To.nil ?_
      refine To.sub [(0, .agg (Ms.cells x).toArray), (1, .agg (Ms.cells y).toArray), (2, .pointer (some ⟨b2, 0, none⟩)), (3, .pointer (some ⟨b3, 0, none⟩)), (4, .bool (decide (x.n < y.n))), (9, .bool (decide (x.f ≠ y.f))), (19, .bool (decide (x.t ≠ y.t)))] ⟨rfl, rfl, rfl, rfl, rfl, rfl, rfl, trivial⟩ ?_
      refine To.thenN ?_
      refine To.ret ?_
      refine To.end1 (.inl rfl) Try.results11 rfl ?_
      refine congrArg Value.bool (decide_eq_decide.2 ?_)
      rw [Ms.lt_iff]; simp [c9, c19]
theorem sgn_key (x y : Ky) : x.cmp y = -1 ∨ x.cmp y = 0 ∨ x.cmp y = 1 := by
  have h : ∀ a b, cmpI a b = -1 ∨ cmpI a b = 0 ∨ cmpI a b = 1 := fun a b => by unfold cmpI; split <;> first | omega | (split <;> omega)
  simp only [Ky.cmp, orL, or_id]
  split <;> (try split) <;> (try split) <;> exact h _ _
set_option maxHeartbeats 2000000 in
set_option maxRecDepth 100000 in
theorem cmpKey_fn (x y : Ky) :
    Does Try.prog 20 [.agg (Ky.cells x).toArray, .agg (Ky.cells y).toArray] [] (fun v _ => v = .int .i64 (x.cmp y)) := by
  refine Does.enter Try.func20 rfl Try.ntmps20 rfl (fun w0 => ?_)
  refine To.seq ?_
  refine To.reg ?_
  refine To.boxed rfl rfl rfl rfl rfl rfl (fun b2 => ?_)
  refine To.boxed rfl rfl rfl rfl rfl rfl (fun b3 => ?_)
  refine To.rd rfl rfl rfl (Rd.assign rfl rfl) ?_
  refine To.nil ?_
  refine To.thenN ?_
  refine To.seq ?_
  refine To.block ?_
  refine To.seq ?_
  refine To.reg ?_
  refine To.rd rfl rfl rfl (Rd.loadS (i := 1) rfl rfl r37 rfl box_whole rfl) ?_
  refine To.rd rfl rfl rfl (Rd.loadS (i := 0) rfl rfl r37 rfl box_whole rfl) ?_
  refine To.callV rfl rfl rfl (Ent.fn rfl rfl ca12) (lessK_fn x y) rfl (oks_nil _) ?_
  refine To.rd rfl rfl rfl (Rd.assign rfl rfl) ?_
  refine To.nil ?_
  refine To.thenN ?_
  refine To.condP rfl (fun c5 => ?_) (fun c5 => ?_)
  ·
    refine To.seq ?_
    refine To.reg ?_
    refine To.rd rfl rfl rfl (Rd.assign rfl rfl) ?_
    refine To.nil ?_
    refine To.thenN ?_
    refine To.ret ?_
    refine To.blockR ?_
    refine To.thenR ?_
    refine To.end1 (.inl rfl) Try.results20 rfl ?_
    have h1 := cmpK.anti x y
    have h2 := sgn_key x y
    refine congrArg (Value.int .i64) ?_
    omega
  ·
    refine To.seq ?_
    refine To.reg ?_
    refine To.rd rfl rfl rfl (Rd.loadS (i := 0) rfl rfl r37 rfl box_whole rfl) ?_
    refine To.rd rfl rfl rfl (Rd.loadS (i := 1) rfl rfl r37 rfl box_whole rfl) ?_
    refine To.callV rfl rfl rfl (Ent.fn rfl rfl ca12) (lessK_fn y x) rfl (oks_nil _) ?_
    refine To.rd rfl rfl rfl (Rd.assign rfl rfl) ?_
    refine To.nil ?_
    refine To.thenN ?_
    refine To.condP rfl (fun c9 => ?_) (fun c9 => ?_)
    ·
      refine To.seq ?_
      refine To.reg ?_
      refine To.rd rfl rfl rfl (Rd.assign rfl rfl) ?_
      refine To.nil ?_
      refine To.thenN ?_
      refine To.ret ?_
      refine To.blockR ?_
      refine To.thenR ?_
      refine To.end1 (.inl rfl) Try.results20 rfl ?_
      have h1 := cmpK.anti x y
      have h2 := sgn_key x y
      refine congrArg (Value.int .i64) ?_
      omega
    ·
      refine To.skip ?_
      refine To.blockN ?_
      refine To.thenN ?_
      refine To.seq ?_
      refine To.reg ?_
      refine To.rd rfl rfl rfl (Rd.assign rfl rfl) ?_
      refine To.nil ?_
      refine To.thenN ?_
      refine To.ret ?_
      refine To.end1 (.inl rfl) Try.results20 rfl ?_
      have h1 := cmpK.anti x y
      have h2 := sgn_key x y
      refine congrArg (Value.int .i64) ?_
      omega
end Go.Proofs.Ytnghonabedcacaa

/- Sorting of short lists of keys and messages. Own text (walks printed by sx.py). -/
import Derived.Test.YtnghonabedcacaaI1
namespace Go.Proofs.Ytnghonabedcacaa
open Go.RowKit Go.Flow Go.Mem Go.Sep
set_option maxHeartbeats 2000000 in
set_option maxRecDepth 100000 in
theorem insKey_fn (A : Option Addr) (cap : Nat) (l : List Ky) (hl : l.length ≤ 12) :
    Does Try.prog 61 [.slice A l.length cap, .int .i64 0, .int .i64 ((l.length : Nat) : Int), .func (.func 20) #[] #[]] [rows Ky.cells 37 4 A cap l] (fun v Γ' => v = .tuple #[] ∧ Γ' = [rows Ky.cells 37 4 A cap (isort Ky.cmp l)]) := by
  refine Does.enter Try.func61 rfl Try.ntmps61 rfl (fun w0 => ?_)
  refine To.seq ?_
  refine To.reg ?_
  refine To.rd rfl rfl rfl (Rd.move rfl rfl) ?_
  refine To.rd rfl rfl rfl (Rd.add64 rfl rfl rfl (by omega)) ?_
  refine To.rd rfl rfl rfl (Rd.assign rfl rfl) ?_
  refine To.nil ?_
  refine To.thenN ?_
  refine To.block ?_
  refine To.sub [(0, .slice A ((isort Ky.cmp (l.take 1) ++ l.drop 1).length) cap), (1, .int .i64 0), (2, .int .i64 ((l.length : Nat) : Int)), (3, .func (.func 20) #[] #[]), (8, .int .i64 ((1 : Nat) : Int))] ⟨(congrArg (fun n : Nat => some (Value.slice A n cap)) (congrArg List.length (isort_one l).symm)), rfl, rfl, rfl, rfl, trivial⟩ ?_
  refine To.only [0] rfl ?_
  refine To.as [rows Ky.cells 37 4 A cap (isort Ky.cmp (l.take 1) ++ l.drop 1)] (by rw [isort_one]) ?_
  refine To.loop (fun mz ρ Γ => ∃ (i : Nat), ρ = [(0, .slice A ((isort Ky.cmp (l.take i) ++ l.drop i).length) cap), (1, .int .i64 0), (2, .int .i64 ((l.length : Nat) : Int)), (3, .func (.func 20) #[] #[]), (8, .int .i64 ((i : Nat) : Int))] ∧ Γ = [rows Ky.cells 37 4 A cap (isort Ky.cmp (l.take i) ++ l.drop i)] ∧ mz = l.length - i ∧ (1 ≤ i ∧ (i ≤ l.length ∨ l.length = 0))) (l.length - 1) ⟨1, rfl, rfl, rfl, (by omega)⟩ ?_
  rintro mz _ _ ⟨i, rfl, rfl, rfl, hi⟩
  refine To.seq ?_
  refine To.seq ?_
  refine To.reg ?_
  refine To.rd rfl rfl rfl (Rd.move rfl rfl) ?_
  refine To.rd rfl rfl rfl (Rd.move rfl rfl) ?_
  refine To.rd rfl rfl rfl (Rd.lss rfl rfl rfl) ?_
  refine To.nil ?_
  refine To.thenN ?_
  refine To.condP rfl (fun c14 => ?_) (fun c14 => ?_)
  ·
    refine To.skip ?_
    refine To.thenN ?_
    refine To.seq ?_
    refine To.block ?_
    refine To.seq ?_
    refine To.reg ?_
    refine To.rd rfl rfl rfl (Rd.move rfl rfl) ?_
    refine To.rd rfl rfl rfl (Rd.assign rfl rfl) ?_
    refine To.nil ?_
    refine To.thenN ?_
    refine To.block ?_
    obtain ⟨x, hx⟩ : ∃ z0, l[i]? = some z0 := ⟨l[i]'(by omega), List.getElem?_eq_getElem _⟩
    have hlen : (isort Ky.cmp (l.take i)).length = i := by rw [isort_len, List.length_take]; omega
    have hd0 := drop_of_get hx
    refine To.sub [(0, .slice A (((isort Ky.cmp (l.take i)) ++ x :: ([] ++ l.drop (i + 1))).length) cap), (1, .int .i64 0), (2, .int .i64 ((l.length : Nat) : Int)), (3, .func (.func 20) #[] #[]), (8, .int .i64 ((i : Nat) : Int)), (9, .int .i64 (((isort Ky.cmp (l.take i)).length : Nat) : Int))] ⟨(congrArg (fun n : Nat => some (Value.slice A n cap)) (congrArg (fun d => (isort Ky.cmp (l.take i) ++ d).length) hd0)), rfl, rfl, rfl, rfl, (congrArg (fun n : Nat => some (Value.int .i64 (n : Int))) hlen.symm), trivial⟩ ?_
    refine To.only [0] rfl ?_
    refine To.as [rows Ky.cells 37 4 A cap ((isort Ky.cmp (l.take i)) ++ x :: ([] ++ l.drop (i + 1)))] (by rw [hd0]; rfl) ?_
    refine To.loop (fun mz ρ Γ => ∃ (p : List Ky) (q : List Ky), ρ = [(0, .slice A ((p ++ x :: (q ++ l.drop (i + 1))).length) cap), (1, .int .i64 0), (2, .int .i64 ((l.length : Nat) : Int)), (3, .func (.func 20) #[] #[]), (8, .int .i64 ((i : Nat) : Int)), (9, .int .i64 ((p.length : Nat) : Int))] ∧ Γ = [rows Ky.cells 37 4 A cap (p ++ x :: (q ++ l.drop (i + 1)))] ∧ mz = p.length ∧ (isort Ky.cmp (l.take i) = p ++ q) ∧ (∀ z ∈ q, Ky.cmp x z < 0)) ((isort Ky.cmp (l.take i)).length) ⟨(isort Ky.cmp (l.take i)), [], rfl, rfl, rfl, ((List.append_nil _).symm), (fun z hz => absurd hz List.not_mem_nil)⟩ ?_
    rintro mz _ _ ⟨p, q, rfl, rfl, rfl, hpq, hq⟩
    have hln : (p ++ x :: (q ++ l.drop (i + 1))).length = l.length := by
      have h1 := congrArg List.length hpq
      rw [isort_len, List.length_take, List.length_append] at h1
      simp only [List.length_append, List.length_cons, List.length_drop]; omega
    have hpi : p.length < l.length := by rw [← hln]; simp only [List.length_append, List.length_cons]; omega
    refine To.seq ?_
    refine To.seq ?_
    have hgx : (p ++ x :: (q ++ l.drop (i + 1)))[p.length]? = some x := get_mid _ _ _
    refine To.flow [] [⟨0, [], 0⟩, ⟨1, [], 0⟩, ⟨2, [], 0⟩, ⟨3, [], 0⟩, ⟨4, [], 0⟩, ⟨5, [], 0⟩, ⟨6, [], 0⟩, ⟨9, [], 0⟩, ⟨10, [], 0⟩, ⟨11, [], 0⟩, ⟨7, [], 1⟩, ⟨8, [], 1⟩, ⟨12, [], 1⟩, ⟨13, [], 1⟩, ⟨14, [], 3⟩, ⟨15, [], 0⟩, ⟨16, [], 0⟩] mixed (by kernel_rfl) (oks_nil _) ?_
    refine FlowS.free rfl rfl rfl rfl (Rd.move rfl rfl) ?_
    refine FlowS.free rfl rfl rfl rfl (Rd.move rfl rfl) ?_
    refine FlowS.free rfl rfl rfl rfl (Rd.gtr rfl rfl rfl) ?_
    refine FlowS.rdP rfl rfl rfl rfl (Rd.move rfl rfl) (fun g21 => ?_) (fun g21 => ?_)
    ·
      have hpp : 0 < p.length := by omega
      obtain ⟨p', y, hp⟩ := snoc_of_pos hpp
      have hgy : (p ++ x :: (q ++ l.drop (i + 1)))[p.length - 1]? = some y := by rw [hp]; simp
      refine FlowS.free rfl rfl rfl rfl (Rd.move rfl rfl) ?_
      refine FlowS.free rfl rfl rfl rfl (Rd.move rfl rfl) ?_
      refine FlowS.free rfl rfl rfl rfl (Rd.move rfl rfl) ?_
      refine FlowS.free rfl rfl rfl rfl (Rd.move rfl rfl) ?_
      refine FlowS.free rfl rfl rfl rfl (Rd.move rfl rfl) ?_
      refine FlowS.free rfl rfl rfl rfl (Rd.as (v' := .int .i64 ((p.length - 1 : Nat) : Int)) (congrArg (Value.int .i64) (by omega)) (Rd.sub64 rfl rfl rfl (by omega))) ?_
      refine FlowS.rd rfl rfl rfl rfl (Rd.indexRows (i := 0) (j := p.length) rfl rfl rfl s22 rfl hgx) ?_
      refine FlowS.rd rfl rfl rfl rfl (Rd.loadS (i := 0) rfl rfl r37 rfl (rows_gives encK hgx) (encK.len _)) ?_
      refine FlowS.rd rfl rfl rfl rfl (Rd.indexRows (i := 0) (j := (p.length - 1)) rfl rfl rfl s22 rfl hgy) ?_
      refine FlowS.rd rfl rfl rfl rfl (Rd.loadS (i := 0) rfl rfl r37 rfl (rows_gives encK hgy) (encK.len _)) ?_
      refine FlowS.callQ rfl rfl rfl rfl (Ent.func (first := []) (captured := []) rfl rfl rfl ca20) (cmpKey_fn x y) rfl (oks_nil _) ?_
      refine FlowS.free rfl rfl rfl rfl (Rd.lss rfl rfl rfl) ?_
      refine FlowS.free rfl rfl rfl rfl (Rd.pickT rfl rfl rfl) ?_
      refine FlowS.fin ?_
      refine To.as [rows Ky.cells 37 4 A cap (p ++ x :: (q ++ l.drop (i + 1)))] rfl ?_
      refine To.sub [(0, .slice A ((p ++ x :: (q ++ l.drop (i + 1))).length) cap), (1, .int .i64 0), (2, .int .i64 ((l.length : Nat) : Int)), (3, .func (.func 20) #[] #[]), (8, .int .i64 ((i : Nat) : Int)), (9, .int .i64 ((p.length : Nat) : Int)), (34, .bool (decide ((x.cmp y) < 0)))] ⟨rfl, rfl, rfl, rfl, rfl, rfl, rfl, trivial⟩ ?_
      refine To.thenN ?_
      refine To.condP rfl (fun c34 => ?_) (fun c34 => ?_)
      ·
        have hxy := c34
        refine To.skip ?_
        refine To.thenN ?_
        refine To.seq ?_
        refine To.block ?_
        have hl2 : ((p ++ x :: (q ++ l.drop (i + 1))).set p.length y).length = l.length := by rw [List.length_set]; exact hln
        refine To.know (p := A = some ⟨blk A, ofs A, none⟩) (fun w hw => rows_some encK (by decide) (l := (p ++ x :: (q ++ l.drop (i + 1)))) (by rw [hln]; omega) 0 rfl hw) (fun hA => ?_)
        refine To.flow [] [⟨0, [], 0⟩, ⟨1, [], 0⟩, ⟨2, [], 0⟩, ⟨3, [], 0⟩, ⟨4, [], 0⟩, ⟨5, [], 0⟩, ⟨6, [], 0⟩, ⟨7, [], 0⟩, ⟨8, [], 0⟩, ⟨10, [], 0⟩, ⟨11, [], 0⟩, ⟨12, [], 0⟩, ⟨9, [], 1⟩, ⟨13, [], 1⟩, ⟨14, [], 0⟩, ⟨15, [], 5⟩, ⟨16, [], 0⟩, ⟨17, [], 5⟩] mixed (by kernel_rfl) (oks_nil _) ?_
        refine FlowS.free rfl rfl rfl rfl (Rd.move rfl rfl) ?_
        refine FlowS.free rfl rfl rfl rfl (Rd.move rfl rfl) ?_
        refine FlowS.free rfl rfl rfl rfl (Rd.move rfl rfl) ?_
        refine FlowS.free rfl rfl rfl rfl (Rd.move rfl rfl) ?_
        refine FlowS.free rfl rfl rfl rfl (Rd.as (v' := .int .i64 ((p.length - 1 : Nat) : Int)) (congrArg (Value.int .i64) (by omega)) (Rd.sub64 rfl rfl rfl (by omega))) ?_
        refine FlowS.free rfl rfl rfl rfl (Rd.move rfl rfl) ?_
        refine FlowS.free rfl rfl rfl rfl (Rd.move rfl rfl) ?_
        refine FlowS.free rfl rfl rfl rfl (Rd.as (v' := .int .i64 ((p.length - 1 : Nat) : Int)) (congrArg (Value.int .i64) (by omega)) (Rd.sub64 rfl rfl rfl (by omega))) ?_
        refine FlowS.free rfl rfl rfl rfl (Rd.indexS (j := (p.length - 1)) hA rfl rfl rfl s22 (by rw [hln]; omega)) ?_
        refine FlowS.free rfl rfl rfl rfl (Rd.move rfl rfl) ?_
        refine FlowS.free rfl rfl rfl rfl (Rd.move rfl rfl) ?_
        refine FlowS.free rfl rfl rfl rfl (Rd.indexS (j := p.length) hA rfl rfl rfl s22 (by rw [hln]; omega)) ?_
        refine FlowS.rd rfl rfl rfl rfl (Rd.loadS (i := 0) rfl rfl r37 rfl (rows_gives encK hgy) (encK.len _)) ?_
        refine FlowS.rd rfl rfl rfl rfl (Rd.loadS (i := 0) rfl rfl r37 rfl (rows_gives encK hgx) (encK.len _)) ?_
        refine FlowS.free rfl rfl rfl rfl (Rd.indexS (j := p.length) hA rfl rfl rfl s22 (by rw [hln]; omega)) ?_
        refine FlowS.up (Γ' := [rows Ky.cells 37 4 A cap ((p ++ x :: (q ++ l.drop (i + 1))).set p.length y)]) rfl rfl rfl (Up.storeS (i := 0) (us := Ky.cells y) rfl rfl rfl r37 (encK.len _) rfl rfl (rows_takes encK (by decide) (by omega))) (oks_nil _) ?_
        refine FlowS.free rfl rfl rfl rfl (Rd.indexS (j := (p.length - 1)) hA rfl rfl rfl s22 (by rw [hln]; omega)) ?_
        refine FlowS.up (Γ' := [rows Ky.cells 37 4 A cap (((p ++ x :: (q ++ l.drop (i + 1))).set p.length y).set (p.length - 1) x)]) rfl rfl rfl (Up.storeS (i := 0) (us := Ky.cells x) rfl rfl rfl r37 (encK.len _) rfl rfl (rows_takes encK (by decide) (by omega))) (oks_nil _) ?_
        refine FlowS.fin ?_
        refine To.as [rows Ky.cells 37 4 A cap (((p ++ x :: (q ++ l.drop (i + 1))).set p.length y).set (p.length - 1) x)] rfl ?_
        refine To.sub [(0, .slice A ((p ++ x :: (q ++ l.drop (i + 1))).length) cap), (1, .int .i64 0), (2, .int .i64 ((l.length : Nat) : Int)), (3, .func (.func 20) #[] #[]), (8, .int .i64 ((i : Nat) : Int)), (9, .int .i64 ((p.length : Nat) : Int)), (34, .bool (decide ((x.cmp y) < 0)))] ⟨rfl, rfl, rfl, rfl, rfl, rfl, rfl, trivial⟩ ?_
        refine To.blockN ?_
        refine To.thenN ?_
        refine To.reg ?_
        refine To.rd rfl rfl rfl (Rd.move rfl rfl) ?_
        refine To.rd rfl rfl rfl (Rd.as (v' := .int .i64 ((p.length - 1 : Nat) : Int)) (congrArg (Value.int .i64) (by omega)) (Rd.sub64 rfl rfl rfl (by omega))) ?_
        refine To.rd rfl rfl rfl (Rd.assign rfl rfl) ?_
        refine To.nil ?_
        refine To.thenN ?_
        have hsw := swap_set p' (q ++ l.drop (i + 1)) x y
        have hpl : p.length - 1 = p'.length := by rw [hp]; simp
        refine To.sub [(0, .slice A ((p' ++ x :: ((y :: q) ++ l.drop (i + 1))).length) cap), (1, .int .i64 0), (2, .int .i64 ((l.length : Nat) : Int)), (3, .func (.func 20) #[] #[]), (8, .int .i64 ((i : Nat) : Int)), (9, .int .i64 ((p'.length : Nat) : Int))] ⟨(congrArg (fun n : Nat => some (Value.slice A n cap)) (by rw [hp]; simp)), rfl, rfl, rfl, rfl, (congrArg (fun n : Nat => some (Value.int .i64 (n : Int))) hpl), trivial⟩ ?_
        refine To.only [0] rfl ?_
        refine To.as [rows Ky.cells 37 4 A cap (p' ++ x :: ((y :: q) ++ l.drop (i + 1)))] (by rw [hpl, hp]; rw [hsw]; rfl) ?_
        refine To.again (p'.length) (by rw [hp]; simp) ⟨p', (y :: q), rfl, rfl, rfl, (by rw [hpq, hp]; simp), (fun z hz => by
          rcases List.mem_cons.1 hz with rfl | hz
          · exact hxy
          · exact hq z hz)⟩
      ·
        have hstop : p.length = 0 ∨ ∀ z, p.getLast? = some z → ¬ Ky.cmp x z < 0 := .inr (fun z hz => by rw [hp] at hz; simp at hz; subst hz; exact c34)
        refine To.exit ?_
        refine To.thenX ?_
        refine To.thenX ?_
        refine To.blockX ?_
        refine To.blockN ?_
        refine To.thenN ?_
        refine To.reg ?_
        refine To.rd rfl rfl rfl (Rd.move rfl rfl) ?_
        refine To.rd rfl rfl rfl (Rd.inc rfl rfl rfl (by omega)) ?_
        refine To.rd rfl rfl rfl (Rd.assign rfl rfl) ?_
        refine To.nil ?_
        refine To.thenN ?_
        have hlast : ∀ z, p.getLast? = some z → ¬ Ky.cmp x z < 0 := fun z hz => by
          rcases hstop with h0 | h0
          · rw [List.eq_nil_of_length_eq_zero h0] at hz; simp at hz
          · exact h0 z hz
        have hnext : (p ++ x :: (q ++ l.drop (i + 1))) = isort Ky.cmp (l.take (i + 1)) ++ l.drop (i + 1) := by rw [isort_next hx hpq hq hlast]; simp
        refine To.sub [(0, .slice A ((isort Ky.cmp (l.take (i + 1)) ++ l.drop (i + 1)).length) cap), (1, .int .i64 0), (2, .int .i64 ((l.length : Nat) : Int)), (3, .func (.func 20) #[] #[]), (8, .int .i64 (((i + 1) : Nat) : Int))] ⟨(congrArg (fun n : Nat => some (Value.slice A n cap)) (congrArg List.length hnext)), rfl, rfl, rfl, rfl, trivial⟩ ?_
        refine To.only [0] rfl ?_
        refine To.as [rows Ky.cells 37 4 A cap (isort Ky.cmp (l.take (i + 1)) ++ l.drop (i + 1))] (by rw [hnext]) ?_
        refine To.again (l.length - (i + 1)) (by omega) ⟨i + 1, rfl, rfl, rfl, (by omega)⟩
    ·
      have hstop : p.length = 0 ∨ ∀ z, p.getLast? = some z → ¬ Ky.cmp x z < 0 := .inl (by omega)
      refine FlowS.skip (by decide) rfl rfl rfl rfl ?_
      refine FlowS.skip (by decide) rfl rfl rfl rfl ?_
      refine FlowS.skip (by decide) rfl rfl rfl rfl ?_
      refine FlowS.skip (by decide) rfl rfl rfl rfl ?_
      refine FlowS.skip (by decide) rfl rfl rfl rfl ?_
      refine FlowS.skip (by decide) rfl rfl rfl rfl ?_
      refine FlowS.skip (by decide) rfl rfl rfl rfl ?_
      refine FlowS.skip (by decide) rfl rfl rfl rfl ?_
      refine FlowS.skip (by decide) rfl rfl rfl rfl ?_
      refine FlowS.skip (by decide) rfl rfl rfl rfl ?_
      refine FlowS.skip (by decide) rfl rfl rfl rfl ?_
      refine FlowS.skip (by decide) rfl rfl rfl rfl ?_
      refine FlowS.free rfl rfl rfl rfl (Rd.pickF rfl rfl rfl) ?_
      refine FlowS.fin ?_
      refine To.as [rows Ky.cells 37 4 A cap (p ++ x :: (q ++ l.drop (i + 1)))] rfl ?_
      refine To.sub [(0, .slice A ((p ++ x :: (q ++ l.drop (i + 1))).length) cap), (1, .int .i64 0), (2, .int .i64 ((l.length : Nat) : Int)), (3, .func (.func 20) #[] #[]), (8, .int .i64 ((i : Nat) : Int)), (9, .int .i64 ((p.length : Nat) : Int)), (34, .bool false)] ⟨rfl, rfl, rfl, rfl, rfl, rfl, rfl, trivial⟩ ?_
      refine To.thenN ?_
      refine To.condF rfl ?_
      refine To.exit ?_
      refine To.thenX ?_
      refine To.thenX ?_
      refine To.blockX ?_
      refine To.blockN ?_
      refine To.thenN ?_
      refine To.reg ?_
      refine To.rd rfl rfl rfl (Rd.move rfl rfl) ?_
      refine To.rd rfl rfl rfl (Rd.inc rfl rfl rfl (by omega)) ?_
      refine To.rd rfl rfl rfl (Rd.assign rfl rfl) ?_
      refine To.nil ?_
      refine To.thenN ?_
      have hlast : ∀ z, p.getLast? = some z → ¬ Ky.cmp x z < 0 := fun z hz => by
        rcases hstop with h0 | h0
        · rw [List.eq_nil_of_length_eq_zero h0] at hz; simp at hz
        · exact h0 z hz
      have hnext : (p ++ x :: (q ++ l.drop (i + 1))) = isort Ky.cmp (l.take (i + 1)) ++ l.drop (i + 1) := by rw [isort_next hx hpq hq hlast]; simp
      refine To.sub [(0, .slice A ((isort Ky.cmp (l.take (i + 1)) ++ l.drop (i + 1)).length) cap), (1, .int .i64 0), (2, .int .i64 ((l.length : Nat) : Int)), (3, .func (.func 20) #[] #[]), (8, .int .i64 (((i + 1) : Nat) : Int))] ⟨(congrArg (fun n : Nat => some (Value.slice A n cap)) (congrArg List.length hnext)), rfl, rfl, rfl, rfl, trivial⟩ ?_
      refine To.only [0] rfl ?_
      refine To.as [rows Ky.cells 37 4 A cap (isort Ky.cmp (l.take (i + 1)) ++ l.drop (i + 1))] (by rw [hnext]) ?_
      refine To.again (l.length - (i + 1)) (by omega) ⟨i + 1, rfl, rfl, rfl, (by omega)⟩
  ·
    refine To.exit ?_
    refine To.thenX ?_
    refine To.thenX ?_
    refine To.blockX ?_
    refine To.end0 (.inr rfl) Try.results61 ?_
    exact ⟨rfl, by rw [show l.take i = l from List.take_of_length_le (by omega), List.drop_eq_nil_of_le (by omega), List.append_nil]⟩
set_option maxHeartbeats 2000000 in
set_option maxRecDepth 100000 in
theorem pdqKey_fn (A : Option Addr) (cap : Nat) (l : List Ky) (hl : l.length ≤ 12) (k : Int) :
    Does Try.prog 47 [.slice A l.length cap, .int .i64 0, .int .i64 ((l.length : Nat) : Int), .int .i64 k, .func (.func 20) #[] #[]] [rows Ky.cells 37 4 A cap l] (fun v Γ' => v = .tuple #[] ∧ Γ' = [rows Ky.cells 37 4 A cap (isort Ky.cmp l)]) := by
  refine Does.enter Try.func47 rfl Try.ntmps47 rfl (fun w0 => ?_)
  refine To.seq ?_
  refine To.reg ?_
  refine To.rd rfl rfl rfl (Rd.assign rfl rfl) ?_
  refine To.nil ?_
  refine To.thenN ?_
  refine To.seq ?_
  refine To.reg ?_
  refine To.rd rfl rfl rfl (Rd.assign rfl rfl) ?_
  refine To.nil ?_
  refine To.thenN ?_
  refine To.block ?_
  refine To.loopOnce ?_
  refine To.block ?_
  refine To.seq ?_
  refine To.reg ?_
  refine To.rd rfl rfl rfl (Rd.move rfl rfl) ?_
  refine To.rd rfl rfl rfl (Rd.move rfl rfl) ?_
  refine To.rd rfl rfl rfl (Rd.sub64 rfl rfl rfl (by omega)) ?_
  refine To.rd rfl rfl rfl (Rd.assign rfl rfl) ?_
  refine To.nil ?_
  refine To.thenN ?_
  refine To.seq ?_
  refine To.seq ?_
  refine To.reg ?_
  refine To.rd rfl rfl rfl (Rd.move rfl rfl) ?_
  refine To.rd rfl rfl rfl (Rd.leq rfl rfl rfl) ?_
  refine To.nil ?_
  refine To.thenN ?_
  refine To.condP rfl (fun c25 => ?_) (fun c25 => ?_)
  ·
    refine To.seq ?_
    refine To.reg ?_
    refine To.rd rfl rfl rfl (Rd.move rfl rfl) ?_
    refine To.rd rfl rfl rfl (Rd.move rfl rfl) ?_
    refine To.rd rfl rfl rfl (Rd.move rfl rfl) ?_
    refine To.rd rfl rfl rfl (Rd.move rfl rfl) ?_
    refine To.call [0] rfl rfl rfl (Ent.fn rfl rfl ca61) rfl (insKey_fn A cap l hl) ?_
    rintro _ _ ⟨rfl, rfl⟩
    refine To.as [rows Ky.cells 37 4 A cap (isort Ky.cmp l)] rfl ?_
    refine To.nil ?_
    refine To.thenN ?_
    refine To.ret ?_
    refine To.thenR ?_
    refine To.blockR ?_
    refine To.thenR ?_
    refine To.blockR ?_
    refine To.end0 (.inl rfl) Try.results47 ?_
    exact ⟨rfl, rfl⟩
  ·
    exact absurd (by omega) c25
set_option maxHeartbeats 2000000 in
set_option maxRecDepth 100000 in
theorem sortKey_fn (A : Option Addr) (cap : Nat) (l : List Ky) (hl : l.length ≤ 12) :
    Does Try.prog 39 [.slice A l.length cap, .func (.func 20) #[] #[]] [rows Ky.cells 37 4 A cap l] (fun v Γ' => v = .tuple #[] ∧ Γ' = [rows Ky.cells 37 4 A cap (isort Ky.cmp l)]) := by
  refine Does.enter Try.func39 rfl Try.ntmps39 rfl (fun w0 => ?_)
  refine To.seq ?_
  refine To.reg ?_
  refine To.rd rfl rfl rfl (Rd.move rfl rfl) ?_
  refine To.rd rfl rfl rfl (Rd.len rfl rfl Try.underlying22) ?_
  refine To.rd rfl rfl rfl (Rd.assign rfl rfl) ?_
  refine To.nil ?_
  refine To.thenN ?_
  refine To.reg ?_
  refine To.rd rfl rfl rfl (Rd.move rfl rfl) ?_
  refine To.rd rfl rfl rfl (Rd.move rfl rfl) ?_
  refine To.rd rfl rfl rfl (Rd.move rfl rfl) ?_
  refine To.rd rfl rfl rfl (Rd.conv rfl rfl Try.underlying3 Try.underlying82 (wrapU (by first | omega | (simp only [List.length_append, List.length_cons, List.length_nil]; omega)))) ?_
  refine To.callQ rfl rfl rfl (Ent.fn rfl rfl ca46) (blen_fn l.length (by omega)) rfl (oks_nil _) ?_
  rintro _ _ ⟨k1, rfl, rfl⟩
  refine ⟨rfl, ?_⟩
  refine To.as [rows Ky.cells 37 4 A cap l] rfl ?_
  refine To.rd rfl rfl rfl (Rd.move rfl rfl) ?_
  refine To.call [0] rfl rfl rfl (Ent.fn rfl rfl ca47) rfl (pdqKey_fn A cap l hl k1) ?_
  rintro _ _ ⟨rfl, rfl⟩
  refine To.as [rows Ky.cells 37 4 A cap (isort Ky.cmp l)] rfl ?_
  refine To.nil ?_
  refine To.end0 (.inr rfl) Try.results39 ?_
  exact ⟨rfl, rfl⟩
set_option maxHeartbeats 2000000 in
set_option maxRecDepth 100000 in
theorem sortedKey_fn (A : Option Addr) (cap : Nat) (l : List Ky) (hl : l.length ≤ 12) :
    Does Try.prog 19 [.slice A l.length cap, .func (.func 20) #[] #[]] [ros Ky.cells A l] (fun v Γ' => ∃ B q, v = .slice B (isort Ky.cmp l).length q ∧ Γ' = [rows Ky.cells 37 4 B q (isort Ky.cmp l)]) := by
  refine Does.enter Try.func19 rfl Try.ntmps19 rfl (fun w0 => ?_)
  refine To.seq ?_
  refine To.reg ?_
  refine To.rd rfl rfl rfl (Rd.assign rfl rfl) ?_
  refine To.nil ?_
  refine To.thenN ?_
  refine To.seq ?_
  refine To.nilRow (Ky.cells) 37 4 ?_
  refine To.reg ?_
  refine To.rd rfl rfl rfl (Rd.move rfl rfl) ?_
  refine To.ge rfl rfl rfl (Ge.appendL encK (i := 0) (m := l) rfl s22 rfl rfl rfl (src_ro (i := 1) rfl) (by first | omega | (simp only [List.length_append, List.length_cons, List.length_nil]; omega)) (by first | omega | (simp only [List.length_append, List.length_cons, List.length_nil]; omega))) ?_
  rintro _ _ ⟨A7, q7, rfl, rfl⟩
  refine To.as [rows Ky.cells 37 4 A7 q7 (([] : List Ky) ++ l), ros Ky.cells A l] rfl ?_
  refine To.rd rfl rfl rfl (Rd.assign rfl rfl) ?_
  refine To.nil ?_
  refine To.thenN ?_
  refine To.seq ?_
  refine To.reg ?_
  refine To.rd rfl rfl rfl (Rd.move rfl rfl) ?_
  refine To.rd rfl rfl rfl (Rd.move rfl rfl) ?_
  refine To.call [0] rfl rfl rfl (Ent.fn rfl rfl ca39) rfl (sortKey_fn A7 q7 l hl) ?_
  rintro _ _ ⟨rfl, rfl⟩
  refine To.as [rows Ky.cells 37 4 A7 q7 (isort Ky.cmp l), ros Ky.cells A l] rfl ?_
  refine To.nil ?_
  refine To.thenN ?_
  refine To.seq ?_
  refine To.sub [(5, .slice A7 ((isort Ky.cmp l).length) q7)] ⟨congrArg (fun n : Nat => some (Value.slice A7 n q7)) (isort_len l).symm, trivial⟩ ?_
  refine To.reg ?_
  refine To.rd rfl rfl rfl (Rd.move rfl rfl) ?_
  refine To.rd rfl rfl rfl (Rd.assign rfl rfl) ?_
  refine To.nil ?_
  refine To.thenN ?_
  refine To.ret ?_
  refine To.only [0] rfl ?_
  refine To.end1 (.inl rfl) Try.results19 rfl ?_
  exact ⟨_, _, rfl, rfl⟩
set_option maxHeartbeats 2000000 in
set_option maxRecDepth 100000 in
theorem srtKey_fn (A : Option Addr) (cap : Nat) (l : List Ky) (hl : l.length ≤ 12) :
    Does Try.prog 18 [.slice A l.length cap] [ros Ky.cells A l] (fun v Γ' => ∃ B q, v = .slice B (isort Ky.cmp l).length q ∧ Γ' = [rows Ky.cells 37 4 B q (isort Ky.cmp l)]) := by
  refine Does.enter Try.func18 rfl Try.ntmps18 rfl (fun w0 => ?_)
  refine To.seq ?_
  refine To.reg ?_
  refine To.rd rfl rfl rfl (Rd.assign rfl rfl) ?_
  refine To.nil ?_
  refine To.thenN ?_
  refine To.seq ?_
  refine To.reg ?_
  refine To.rd rfl rfl rfl (Rd.move rfl rfl) ?_
  refine To.callQ rfl rfl rfl (Ent.fn rfl rfl ca19) (sortedKey_fn A cap l hl) rfl (oks_cons (oks_at 0 rfl) (oks_nil _)) ?_
  rintro _ _ ⟨B, q, rfl, rfl⟩
  refine ⟨rfl, ?_⟩
  refine To.as [rows Ky.cells 37 4 B q (isort Ky.cmp l), ros Ky.cells A l] rfl ?_
  refine To.rd rfl rfl rfl (Rd.assign rfl rfl) ?_
  refine To.nil ?_
  refine To.thenN ?_
  refine To.ret ?_
  refine To.only [0] rfl ?_
  refine To.end1 (.inl rfl) Try.results18 rfl ?_
  exact ⟨_, _, rfl, rfl⟩
set_option maxHeartbeats 2000000 in
set_option maxRecDepth 100000 in
theorem cfunKey_fn (A B : Option Addr) (ca cb : Nat) (l m : List Ky) (hl : l.length ≤ 1000000000000) :
    Does Try.prog 26 [.slice A l.length ca, .slice B m.length cb, .func (.func 20) #[] #[]] [ros Ky.cells A l, ros Ky.cells B m] (fun v _ => v = .int .i64 (cmpBy Ky.cmp l m)) := by
  refine Does.enter Try.func26 rfl Try.ntmps26 rfl (fun w0 => ?_)
  refine To.seq ?_
  refine To.reg ?_
  refine To.rd rfl rfl rfl (Rd.assign rfl rfl) ?_
  refine To.nil ?_
  refine To.thenN ?_
  refine To.seq ?_
  refine To.seq ?_
  refine To.reg ?_
  refine To.rd rfl rfl rfl (Rd.move rfl rfl) ?_
  refine To.rd rfl rfl rfl (Rd.len rfl rfl Try.underlying22) ?_
  refine To.rd rfl rfl rfl (Rd.move rfl rfl) ?_
  refine To.nil ?_
  refine To.thenN ?_
  refine To.block ?_
  refine To.sub [(0, .slice A l.length ca), (1, .slice B m.length cb), (2, .func (.func 20) #[] #[]), (11, .slice A l.length ca), (12, .int .i64 ((l.length : Nat) : Int)), (13, .int .i64 ((0 : Nat) : Int))] ⟨rfl, rfl, rfl, rfl, rfl, rfl, trivial⟩ ?_
  refine To.only [0, 0] rfl ?_
  refine To.loop (fun mz ρ Γ => ∃ (i : Nat), ρ = [(0, .slice A l.length ca), (1, .slice B m.length cb), (2, .func (.func 20) #[] #[]), (11, .slice A l.length ca), (12, .int .i64 ((l.length : Nat) : Int)), (13, .int .i64 ((i : Nat) : Int))] ∧ Γ = [ros Ky.cells A l, ros Ky.cells B m] ∧ mz = l.length - i ∧ (i ≤ l.length ∧ i ≤ m.length) ∧ (cmpBy Ky.cmp l m = cmpBy Ky.cmp (l.drop i) (m.drop i))) (l.length - 0) ⟨0, rfl, rfl, rfl, ⟨Nat.zero_le _, Nat.zero_le _⟩, rfl⟩ ?_
  rintro mz _ _ ⟨i, rfl, rfl, rfl, hi, hI⟩
  refine To.seq ?_
  refine To.reg ?_
  refine To.rd rfl rfl rfl (Rd.lss rfl rfl rfl) ?_
  refine To.nil ?_
  refine To.thenN ?_
  refine To.seq ?_
  refine To.condP rfl (fun c14 => ?_) (fun c14 => ?_)
  ·
    obtain ⟨x, hx⟩ : ∃ z0, l[i]? = some z0 := ⟨l[i]'(by omega), List.getElem?_eq_getElem _⟩
    refine To.skip ?_
    refine To.thenN ?_
    refine To.seq ?_
    refine To.block ?_
    refine To.seq ?_
    refine To.reg ?_
    refine To.rd rfl rfl rfl (Rd.move rfl rfl) ?_
    refine To.rd rfl rfl rfl (Rd.indexRos encK (i := 0) (j := i) rfl rfl rfl s22 rfl hx) ?_
    refine To.rd rfl rfl rfl (Rd.loadS (i := 0) rfl rfl r37 rfl (ros_gives encK hx) (encK.len _)) ?_
    refine To.alloc rfl rfl rfl rfl z37 (fun b8 => ?_)
    refine To.rd rfl rfl rfl (Rd.assign rfl rfl) ?_
    refine To.up rfl rfl (Up.storeS (i := 0) rfl rfl rfl r37 rfl rfl rfl (box_takesAll rfl)) ?_
    refine To.nil ?_
    refine To.thenN ?_
    refine To.seq ?_
    refine To.seq ?_
    refine To.reg ?_
    refine To.rd rfl rfl rfl (Rd.move rfl rfl) ?_
    refine To.rd rfl rfl rfl (Rd.move rfl rfl) ?_
    refine To.rd rfl rfl rfl (Rd.len rfl rfl Try.underlying22) ?_
    refine To.rd rfl rfl rfl (Rd.geq rfl rfl rfl) ?_
    refine To.nil ?_
    refine To.thenN ?_
    refine To.condP rfl (fun c21 => ?_) (fun c21 => ?_)
    ·
      refine To.seq ?_
      refine To.reg ?_
      refine To.rd rfl rfl rfl (Rd.assign rfl rfl) ?_
      refine To.nil ?_
      refine To.thenN ?_
      refine To.ret ?_
      refine To.thenR ?_
      refine To.blockR ?_
      refine To.thenR ?_
      refine To.thenR ?_
      refine To.blockR ?_
      refine To.thenR ?_
      refine To.end1 (.inl rfl) Try.results26 rfl ?_
      rw [hI, drop_of_get hx, show m.drop i = [] from List.drop_eq_nil_of_le (by omega)]; rfl
    ·
      obtain ⟨y, hy⟩ : ∃ z0, m[i]? = some z0 := ⟨m[i]'(by omega), List.getElem?_eq_getElem _⟩
      refine To.skip ?_
      refine To.thenN ?_
      refine To.seq ?_
      refine To.reg ?_
      refine To.rd rfl rfl rfl (Rd.move rfl rfl) ?_
      refine To.rd rfl rfl rfl (Rd.move rfl rfl) ?_
      refine To.rd rfl rfl rfl (Rd.indexRos encK (i := 2) (j := i) rfl rfl rfl s22 rfl hy) ?_
      refine To.rd rfl rfl rfl (Rd.loadS (i := 2) rfl rfl r37 rfl (ros_gives encK hy) (encK.len _)) ?_
      refine To.alloc rfl rfl rfl rfl z37 (fun b9 => ?_)
      refine To.up rfl rfl (Up.storeS (i := 0) rfl rfl rfl r37 rfl rfl rfl (box_takesAll rfl)) ?_
      refine To.nil ?_
      refine To.thenN ?_
      refine To.seq ?_
      refine To.reg ?_
      refine To.rd rfl rfl rfl (Rd.move rfl rfl) ?_
      refine To.rd rfl rfl rfl (Rd.loadS (i := 1) rfl rfl r37 rfl box_whole rfl) ?_
      refine To.rd rfl rfl rfl (Rd.loadS (i := 0) rfl rfl r37 rfl box_whole rfl) ?_
      refine To.callV rfl rfl rfl (Ent.func (first := []) (captured := []) rfl rfl rfl ca20) (cmpKey_fn x y) rfl (oks_nil _) ?_
      refine To.rd rfl rfl rfl (Rd.assign rfl rfl) ?_
      refine To.nil ?_
      refine To.sub [(0, .slice A l.length ca), (1, .slice B m.length cb), (2, .func (.func 20) #[] #[]), (11, .slice A l.length ca), (12, .int .i64 ((l.length : Nat) : Int)), (13, .int .i64 ((i : Nat) : Int)), (14, .bool (decide (((i : Nat) : Int) < ((l.length : Nat) : Int)))), (8, .pointer (some ⟨b8, 0, none⟩)), (7, .int .i64 ((i : Nat) : Int)), (21, .bool (decide (((m.length : Nat) : Int) ≤ ((i : Nat) : Int)))), (9, .pointer (some ⟨b9, 0, none⟩)), (10, .int .i64 (x.cmp y))] ⟨rfl, rfl, rfl, rfl, rfl, rfl, rfl, rfl, rfl, rfl, rfl, rfl, trivial⟩ ?_
      refine To.thenN ?_
      refine To.seq ?_
      refine To.reg ?_
      refine To.rd rfl rfl rfl (Rd.move rfl rfl) ?_
      refine To.rd rfl rfl rfl (Rd.neq rfl rfl rfl) ?_
      refine To.nil ?_
      refine To.thenN ?_
      refine To.condP rfl (fun c31 => ?_) (fun c31 => ?_)
      ·
        refine To.seq ?_
        refine To.reg ?_
        refine To.rd rfl rfl rfl (Rd.move rfl rfl) ?_
        refine To.rd rfl rfl rfl (Rd.assign rfl rfl) ?_
        refine To.nil ?_
        refine To.thenN ?_
        refine To.ret ?_
        refine To.blockR ?_
        refine To.thenR ?_
        refine To.thenR ?_
        refine To.blockR ?_
        refine To.thenR ?_
        refine To.end1 (.inl rfl) Try.results26 rfl ?_
        rw [hI, cmpBy_step hx hy, if_neg (by simpa using c31)]
      ·
        refine To.skip ?_
        refine To.blockN ?_
        refine To.thenN ?_
        refine To.reg ?_
        refine To.rd rfl rfl rfl (Rd.inc rfl rfl rfl (by omega)) ?_
        refine To.rd rfl rfl rfl (Rd.move rfl rfl) ?_
        refine To.nil ?_
        refine To.thenN ?_
        refine To.sub [(0, .slice A l.length ca), (1, .slice B m.length cb), (2, .func (.func 20) #[] #[]), (11, .slice A l.length ca), (12, .int .i64 ((l.length : Nat) : Int)), (13, .int .i64 (((i + 1) : Nat) : Int))] ⟨rfl, rfl, rfl, rfl, rfl, rfl, trivial⟩ ?_
        refine To.only [2, 2] rfl ?_
        refine To.again (l.length - (i + 1)) (by omega) ⟨i + 1, rfl, rfl, rfl, (by omega), (by rw [hI, cmpBy_step hx hy, if_pos (by simpa using c31)])⟩
  ·
    refine To.exit ?_
    refine To.thenX ?_
    refine To.thenX ?_
    refine To.blockX ?_
    refine To.thenN ?_
    refine To.seq ?_
    refine To.seq ?_
    refine To.reg ?_
    refine To.rd rfl rfl rfl (Rd.move rfl rfl) ?_
    refine To.rd rfl rfl rfl (Rd.len rfl rfl Try.underlying22) ?_
    refine To.rd rfl rfl rfl (Rd.move rfl rfl) ?_
    refine To.rd rfl rfl rfl (Rd.len rfl rfl Try.underlying22) ?_
    refine To.rd rfl rfl rfl (Rd.lss rfl rfl rfl) ?_
    refine To.nil ?_
    refine To.thenN ?_
    refine To.condP rfl (fun c38 => ?_) (fun c38 => ?_)
    ·
      refine To.seq ?_
      refine To.reg ?_
      refine To.rd rfl rfl rfl (Rd.assign rfl rfl) ?_
      refine To.nil ?_
      refine To.thenN ?_
      refine To.ret ?_
      refine To.thenR ?_
      refine To.end1 (.inl rfl) Try.results26 rfl ?_
      obtain rfl : i = l.length := by omega
      obtain ⟨y, hy⟩ : ∃ y, m[l.length]? = some y := ⟨m[l.length]'(by omega), List.getElem?_eq_getElem _⟩
      rw [hI, List.drop_length, drop_of_get hy]; rfl
    ·
      refine To.skip ?_
      refine To.thenN ?_
      refine To.seq ?_
      refine To.reg ?_
      refine To.rd rfl rfl rfl (Rd.assign rfl rfl) ?_
      refine To.nil ?_
      refine To.thenN ?_
      refine To.ret ?_
      refine To.end1 (.inl rfl) Try.results26 rfl ?_
      rw [hI, List.drop_eq_nil_of_le (by omega), List.drop_eq_nil_of_le (by omega)]; rfl
set_option maxHeartbeats 2000000 in
set_option maxRecDepth 100000 in
theorem insMessage_fn (A : Option Addr) (cap : Nat) (l : List Ms) (hl : l.length ≤ 12) :
    Does Try.prog 51 [.slice A l.length cap, .int .i64 0, .int .i64 ((l.length : Nat) : Int), .func (.func 23) #[] #[]] [rows Ms.cells 33 3 A cap l] (fun v Γ' => v = .tuple #[] ∧ Γ' = [rows Ms.cells 33 3 A cap (isort Ms.cmp l)]) := by
  refine Does.enter Try.func51 rfl Try.ntmps51 rfl (fun w0 => ?_)
  refine To.seq ?_
  refine To.reg ?_
  refine To.rd rfl rfl rfl (Rd.move rfl rfl) ?_
  refine To.rd rfl rfl rfl (Rd.add64 rfl rfl rfl (by omega)) ?_
  refine To.rd rfl rfl rfl (Rd.assign rfl rfl) ?_
  refine To.nil ?_
  refine To.thenN ?_
  refine To.block ?_
  refine To.sub [(0, .slice A ((isort Ms.cmp (l.take 1) ++ l.drop 1).length) cap), (1, .int .i64 0), (2, .int .i64 ((l.length : Nat) : Int)), (3, .func (.func 23) #[] #[]), (8, .int .i64 ((1 : Nat) : Int))] ⟨(congrArg (fun n : Nat => some (Value.slice A n cap)) (congrArg List.length (isort_one l).symm)), rfl, rfl, rfl, rfl, trivial⟩ ?_
  refine To.only [0] rfl ?_
  refine To.as [rows Ms.cells 33 3 A cap (isort Ms.cmp (l.take 1) ++ l.drop 1)] (by rw [isort_one]) ?_
  refine To.loop (fun mz ρ Γ => ∃ (i : Nat), ρ = [(0, .slice A ((isort Ms.cmp (l.take i) ++ l.drop i).length) cap), (1, .int .i64 0), (2, .int .i64 ((l.length : Nat) : Int)), (3, .func (.func 23) #[] #[]), (8, .int .i64 ((i : Nat) : Int))] ∧ Γ = [rows Ms.cells 33 3 A cap (isort Ms.cmp (l.take i) ++ l.drop i)] ∧ mz = l.length - i ∧ (1 ≤ i ∧ (i ≤ l.length ∨ l.length = 0))) (l.length - 1) ⟨1, rfl, rfl, rfl, (by omega)⟩ ?_
  rintro mz _ _ ⟨i, rfl, rfl, rfl, hi⟩
  refine To.seq ?_
  refine To.seq ?_
  refine To.reg ?_
  refine To.rd rfl rfl rfl (Rd.move rfl rfl) ?_
  refine To.rd rfl rfl rfl (Rd.move rfl rfl) ?_
  refine To.rd rfl rfl rfl (Rd.lss rfl rfl rfl) ?_
  refine To.nil ?_
  refine To.thenN ?_
  refine To.condP rfl (fun c14 => ?_) (fun c14 => ?_)
  ·
    refine To.skip ?_
    refine To.thenN ?_
    refine To.seq ?_
    refine To.block ?_
    refine To.seq ?_
    refine To.reg ?_
    refine To.rd rfl rfl rfl (Rd.move rfl rfl) ?_
    refine To.rd rfl rfl rfl (Rd.assign rfl rfl) ?_
    refine To.nil ?_
    refine To.thenN ?_
    refine To.block ?_
    obtain ⟨x, hx⟩ : ∃ z0, l[i]? = some z0 := ⟨l[i]'(by omega), List.getElem?_eq_getElem _⟩
    have hlen : (isort Ms.cmp (l.take i)).length = i := by rw [isort_len, List.length_take]; omega
    have hd0 := drop_of_get hx
    refine To.sub [(0, .slice A (((isort Ms.cmp (l.take i)) ++ x :: ([] ++ l.drop (i + 1))).length) cap), (1, .int .i64 0), (2, .int .i64 ((l.length : Nat) : Int)), (3, .func (.func 23) #[] #[]), (8, .int .i64 ((i : Nat) : Int)), (9, .int .i64 (((isort Ms.cmp (l.take i)).length : Nat) : Int))] ⟨(congrArg (fun n : Nat => some (Value.slice A n cap)) (congrArg (fun d => (isort Ms.cmp (l.take i) ++ d).length) hd0)), rfl, rfl, rfl, rfl, (congrArg (fun n : Nat => some (Value.int .i64 (n : Int))) hlen.symm), trivial⟩ ?_
    refine To.only [0] rfl ?_
    refine To.as [rows Ms.cells 33 3 A cap ((isort Ms.cmp (l.take i)) ++ x :: ([] ++ l.drop (i + 1)))] (by rw [hd0]; rfl) ?_
    refine To.loop (fun mz ρ Γ => ∃ (p : List Ms) (q : List Ms), ρ = [(0, .slice A ((p ++ x :: (q ++ l.drop (i + 1))).length) cap), (1, .int .i64 0), (2, .int .i64 ((l.length : Nat) : Int)), (3, .func (.func 23) #[] #[]), (8, .int .i64 ((i : Nat) : Int)), (9, .int .i64 ((p.length : Nat) : Int))] ∧ Γ = [rows Ms.cells 33 3 A cap (p ++ x :: (q ++ l.drop (i + 1)))] ∧ mz = p.length ∧ (isort Ms.cmp (l.take i) = p ++ q) ∧ (∀ z ∈ q, Ms.cmp x z < 0)) ((isort Ms.cmp (l.take i)).length) ⟨(isort Ms.cmp (l.take i)), [], rfl, rfl, rfl, ((List.append_nil _).symm), (fun z hz => absurd hz List.not_mem_nil)⟩ ?_
    rintro mz _ _ ⟨p, q, rfl, rfl, rfl, hpq, hq⟩
    have hln : (p ++ x :: (q ++ l.drop (i + 1))).length = l.length := by
      have h1 := congrArg List.length hpq
      rw [isort_len, List.length_take, List.length_append] at h1
      simp only [List.length_append, List.length_cons, List.length_drop]; omega
    have hpi : p.length < l.length := by rw [← hln]; simp only [List.length_append, List.length_cons]; omega
    refine To.seq ?_
    refine To.seq ?_
    have hgx : (p ++ x :: (q ++ l.drop (i + 1)))[p.length]? = some x := get_mid _ _ _
    refine To.flow [] [⟨0, [], 0⟩, ⟨1, [], 0⟩, ⟨2, [], 0⟩, ⟨3, [], 0⟩, ⟨4, [], 0⟩, ⟨5, [], 0⟩, ⟨6, [], 0⟩, ⟨9, [], 0⟩, ⟨10, [], 0⟩, ⟨11, [], 0⟩, ⟨7, [], 1⟩, ⟨8, [], 1⟩, ⟨12, [], 1⟩, ⟨13, [], 1⟩, ⟨14, [], 3⟩, ⟨15, [], 0⟩, ⟨16, [], 0⟩] mixed (by kernel_rfl) (oks_nil _) ?_
    refine FlowS.free rfl rfl rfl rfl (Rd.move rfl rfl) ?_
    refine FlowS.free rfl rfl rfl rfl (Rd.move rfl rfl) ?_
    refine FlowS.free rfl rfl rfl rfl (Rd.gtr rfl rfl rfl) ?_
    refine FlowS.rdP rfl rfl rfl rfl (Rd.move rfl rfl) (fun g21 => ?_) (fun g21 => ?_)
    ·
      have hpp : 0 < p.length := by omega
      obtain ⟨p', y, hp⟩ := snoc_of_pos hpp
      have hgy : (p ++ x :: (q ++ l.drop (i + 1)))[p.length - 1]? = some y := by rw [hp]; simp
      refine FlowS.free rfl rfl rfl rfl (Rd.move rfl rfl) ?_
      refine FlowS.free rfl rfl rfl rfl (Rd.move rfl rfl) ?_
      refine FlowS.free rfl rfl rfl rfl (Rd.move rfl rfl) ?_
      refine FlowS.free rfl rfl rfl rfl (Rd.move rfl rfl) ?_
      refine FlowS.free rfl rfl rfl rfl (Rd.move rfl rfl) ?_
      refine FlowS.free rfl rfl rfl rfl (Rd.as (v' := .int .i64 ((p.length - 1 : Nat) : Int)) (congrArg (Value.int .i64) (by omega)) (Rd.sub64 rfl rfl rfl (by omega))) ?_
      refine FlowS.rd rfl rfl rfl rfl (Rd.indexRows (i := 0) (j := p.length) rfl rfl rfl s23 rfl hgx) ?_
      refine FlowS.rd rfl rfl rfl rfl (Rd.loadS (i := 0) rfl rfl r33 rfl (rows_gives encM hgx) (encM.len _)) ?_
      refine FlowS.rd rfl rfl rfl rfl (Rd.indexRows (i := 0) (j := (p.length - 1)) rfl rfl rfl s23 rfl hgy) ?_
      refine FlowS.rd rfl rfl rfl rfl (Rd.loadS (i := 0) rfl rfl r33 rfl (rows_gives encM hgy) (encM.len _)) ?_
      refine FlowS.callQ rfl rfl rfl rfl (Ent.func (first := []) (captured := []) rfl rfl rfl ca23) (cmsg_fn x y) rfl (oks_nil _) ?_
      refine FlowS.free rfl rfl rfl rfl (Rd.lss rfl rfl rfl) ?_
      refine FlowS.free rfl rfl rfl rfl (Rd.pickT rfl rfl rfl) ?_
      refine FlowS.fin ?_
      refine To.as [rows Ms.cells 33 3 A cap (p ++ x :: (q ++ l.drop (i + 1)))] rfl ?_
      refine To.sub [(0, .slice A ((p ++ x :: (q ++ l.drop (i + 1))).length) cap), (1, .int .i64 0), (2, .int .i64 ((l.length : Nat) : Int)), (3, .func (.func 23) #[] #[]), (8, .int .i64 ((i : Nat) : Int)), (9, .int .i64 ((p.length : Nat) : Int)), (34, .bool (decide ((x.cmp y) < 0)))] ⟨rfl, rfl, rfl, rfl, rfl, rfl, rfl, trivial⟩ ?_
      refine To.thenN ?_
      refine To.condP rfl (fun c34 => ?_) (fun c34 => ?_)
      ·
        have hxy := c34
        refine To.skip ?_
        refine To.thenN ?_
        refine To.seq ?_
        refine To.block ?_
        have hl2 : ((p ++ x :: (q ++ l.drop (i + 1))).set p.length y).length = l.length := by rw [List.length_set]; exact hln
        refine To.know (p := A = some ⟨blk A, ofs A, none⟩) (fun w hw => rows_some encM (by decide) (l := (p ++ x :: (q ++ l.drop (i + 1)))) (by rw [hln]; omega) 0 rfl hw) (fun hA => ?_)
        refine To.flow [] [⟨0, [], 0⟩, ⟨1, [], 0⟩, ⟨2, [], 0⟩, ⟨3, [], 0⟩, ⟨4, [], 0⟩, ⟨5, [], 0⟩, ⟨6, [], 0⟩, ⟨7, [], 0⟩, ⟨8, [], 0⟩, ⟨10, [], 0⟩, ⟨11, [], 0⟩, ⟨12, [], 0⟩, ⟨9, [], 1⟩, ⟨13, [], 1⟩, ⟨14, [], 0⟩, ⟨15, [], 5⟩, ⟨16, [], 0⟩, ⟨17, [], 5⟩] mixed (by kernel_rfl) (oks_nil _) ?_
        refine FlowS.free rfl rfl rfl rfl (Rd.move rfl rfl) ?_
        refine FlowS.free rfl rfl rfl rfl (Rd.move rfl rfl) ?_
        refine FlowS.free rfl rfl rfl rfl (Rd.move rfl rfl) ?_
        refine FlowS.free rfl rfl rfl rfl (Rd.move rfl rfl) ?_
        refine FlowS.free rfl rfl rfl rfl (Rd.as (v' := .int .i64 ((p.length - 1 : Nat) : Int)) (congrArg (Value.int .i64) (by omega)) (Rd.sub64 rfl rfl rfl (by omega))) ?_
        refine FlowS.free rfl rfl rfl rfl (Rd.move rfl rfl) ?_
        refine FlowS.free rfl rfl rfl rfl (Rd.move rfl rfl) ?_
        refine FlowS.free rfl rfl rfl rfl (Rd.as (v' := .int .i64 ((p.length - 1 : Nat) : Int)) (congrArg (Value.int .i64) (by omega)) (Rd.sub64 rfl rfl rfl (by omega))) ?_
        refine FlowS.free rfl rfl rfl rfl (Rd.indexS (j := (p.length - 1)) hA rfl rfl rfl s23 (by rw [hln]; omega)) ?_
        refine FlowS.free rfl rfl rfl rfl (Rd.move rfl rfl) ?_
        refine FlowS.free rfl rfl rfl rfl (Rd.move rfl rfl) ?_
        refine FlowS.free rfl rfl rfl rfl (Rd.indexS (j := p.length) hA rfl rfl rfl s23 (by rw [hln]; omega)) ?_
        refine FlowS.rd rfl rfl rfl rfl (Rd.loadS (i := 0) rfl rfl r33 rfl (rows_gives encM hgy) (encM.len _)) ?_
        refine FlowS.rd rfl rfl rfl rfl (Rd.loadS (i := 0) rfl rfl r33 rfl (rows_gives encM hgx) (encM.len _)) ?_
        refine FlowS.free rfl rfl rfl rfl (Rd.indexS (j := p.length) hA rfl rfl rfl s23 (by rw [hln]; omega)) ?_
        refine FlowS.up (Γ' := [rows Ms.cells 33 3 A cap ((p ++ x :: (q ++ l.drop (i + 1))).set p.length y)]) rfl rfl rfl (Up.storeS (i := 0) (us := Ms.cells y) rfl rfl rfl r33 (encM.len _) rfl rfl (rows_takes encM (by decide) (by omega))) (oks_nil _) ?_
        refine FlowS.free rfl rfl rfl rfl (Rd.indexS (j := (p.length - 1)) hA rfl rfl rfl s23 (by rw [hln]; omega)) ?_
        refine FlowS.up (Γ' := [rows Ms.cells 33 3 A cap (((p ++ x :: (q ++ l.drop (i + 1))).set p.length y).set (p.length - 1) x)]) rfl rfl rfl (Up.storeS (i := 0) (us := Ms.cells x) rfl rfl rfl r33 (encM.len _) rfl rfl (rows_takes encM (by decide) (by omega))) (oks_nil _) ?_
        refine FlowS.fin ?_
        refine To.as [rows Ms.cells 33 3 A cap (((p ++ x :: (q ++ l.drop (i + 1))).set p.length y).set (p.length - 1) x)] rfl ?_
        refine To.sub [(0, .slice A ((p ++ x :: (q ++ l.drop (i + 1))).length) cap), (1, .int .i64 0), (2, .int .i64 ((l.length : Nat) : Int)), (3, .func (.func 23) #[] #[]), (8, .int .i64 ((i : Nat) : Int)), (9, .int .i64 ((p.length : Nat) : Int)), (34, .bool (decide ((x.cmp y) < 0)))] ⟨rfl, rfl, rfl, rfl, rfl, rfl, rfl, trivial⟩ ?_
        refine To.blockN ?_
        refine To.thenN ?_
        refine To.reg ?_
        refine To.rd rfl rfl rfl (Rd.move rfl rfl) ?_
        refine To.rd rfl rfl rfl (Rd.as (v' := .int .i64 ((p.length - 1 : Nat) : Int)) (congrArg (Value.int .i64) (by omega)) (Rd.sub64 rfl rfl rfl (by omega))) ?_
        refine To.rd rfl rfl rfl (Rd.assign rfl rfl) ?_
        refine To.nil ?_
        refine To.thenN ?_
        have hsw := swap_set p' (q ++ l.drop (i + 1)) x y
        have hpl : p.length - 1 = p'.length := by rw [hp]; simp
        refine To.sub [(0, .slice A ((p' ++ x :: ((y :: q) ++ l.drop (i + 1))).length) cap), (1, .int .i64 0), (2, .int .i64 ((l.length : Nat) : Int)), (3, .func (.func 23) #[] #[]), (8, .int .i64 ((i : Nat) : Int)), (9, .int .i64 ((p'.length : Nat) : Int))] ⟨(congrArg (fun n : Nat => some (Value.slice A n cap)) (by rw [hp]; simp)), rfl, rfl, rfl, rfl, (congrArg (fun n : Nat => some (Value.int .i64 (n : Int))) hpl), trivial⟩ ?_
        refine To.only [0] rfl ?_
        refine To.as [rows Ms.cells 33 3 A cap (p' ++ x :: ((y :: q) ++ l.drop (i + 1)))] (by rw [hpl, hp]; rw [hsw]; rfl) ?_
        refine To.again (p'.length) (by rw [hp]; simp) ⟨p', (y :: q), rfl, rfl, rfl, (by rw [hpq, hp]; simp), (fun z hz => by
          rcases List.mem_cons.1 hz with rfl | hz
          · exact hxy
          · exact hq z hz)⟩
      ·
        have hstop : p.length = 0 ∨ ∀ z, p.getLast? = some z → ¬ Ms.cmp x z < 0 := .inr (fun z hz => by rw [hp] at hz; simp at hz; subst hz; exact c34)
        refine To.exit ?_
        refine To.thenX ?_
        refine To.thenX ?_
        refine To.blockX ?_
        refine To.blockN ?_
        refine To.thenN ?_
        refine To.reg ?_
        refine To.rd rfl rfl rfl (Rd.move rfl rfl) ?_
        refine To.rd rfl rfl rfl (Rd.inc rfl rfl rfl (by omega)) ?_
        refine To.rd rfl rfl rfl (Rd.assign rfl rfl) ?_
        refine To.nil ?_
        refine To.thenN ?_
        have hlast : ∀ z, p.getLast? = some z → ¬ Ms.cmp x z < 0 := fun z hz => by
          rcases hstop with h0 | h0
          · rw [List.eq_nil_of_length_eq_zero h0] at hz; simp at hz
          · exact h0 z hz
        have hnext : (p ++ x :: (q ++ l.drop (i + 1))) = isort Ms.cmp (l.take (i + 1)) ++ l.drop (i + 1) := by rw [isort_next hx hpq hq hlast]; simp
        refine To.sub [(0, .slice A ((isort Ms.cmp (l.take (i + 1)) ++ l.drop (i + 1)).length) cap), (1, .int .i64 0), (2, .int .i64 ((l.length : Nat) : Int)), (3, .func (.func 23) #[] #[]), (8, .int .i64 (((i + 1) : Nat) : Int))] ⟨(congrArg (fun n : Nat => some (Value.slice A n cap)) (congrArg List.length hnext)), rfl, rfl, rfl, rfl, trivial⟩ ?_
        refine To.only [0] rfl ?_
        refine To.as [rows Ms.cells 33 3 A cap (isort Ms.cmp (l.take (i + 1)) ++ l.drop (i + 1))] (by rw [hnext]) ?_
        refine To.again (l.length - (i + 1)) (by omega) ⟨i + 1, rfl, rfl, rfl, (by omega)⟩
    ·
      have hstop : p.length = 0 ∨ ∀ z, p.getLast? = some z → ¬ Ms.cmp x z < 0 := .inl (by omega)
      refine FlowS.skip (by decide) rfl rfl rfl rfl ?_
      refine FlowS.skip (by decide) rfl rfl rfl rfl ?_
      refine FlowS.skip (by decide) rfl rfl rfl rfl ?_
      refine FlowS.skip (by decide) rfl rfl rfl rfl ?_
      refine FlowS.skip (by decide) rfl rfl rfl rfl ?_
      refine FlowS.skip (by decide) rfl rfl rfl rfl ?_
      refine FlowS.skip (by decide) rfl rfl rfl rfl ?_
      refine FlowS.skip (by decide) rfl rfl rfl rfl ?_
      refine FlowS.skip (by decide) rfl rfl rfl rfl ?_
      refine FlowS.skip (by decide) rfl rfl rfl rfl ?_
      refine FlowS.skip (by decide) rfl rfl rfl rfl ?_
      refine FlowS.skip (by decide) rfl rfl rfl rfl ?_
      refine FlowS.free rfl rfl rfl rfl (Rd.pickF rfl rfl rfl) ?_
      refine FlowS.fin ?_
      refine To.as [rows Ms.cells 33 3 A cap (p ++ x :: (q ++ l.drop (i + 1)))] rfl ?_
      refine To.sub [(0, .slice A ((p ++ x :: (q ++ l.drop (i + 1))).length) cap), (1, .int .i64 0), (2, .int .i64 ((l.length : Nat) : Int)), (3, .func (.func 23) #[] #[]), (8, .int .i64 ((i : Nat) : Int)), (9, .int .i64 ((p.length : Nat) : Int)), (34, .bool false)] ⟨rfl, rfl, rfl, rfl, rfl, rfl, rfl, trivial⟩ ?_
      refine To.thenN ?_
      refine To.condF rfl ?_
      refine To.exit ?_
      refine To.thenX ?_
      refine To.thenX ?_
      refine To.blockX ?_
      refine To.blockN ?_
      refine To.thenN ?_
      refine To.reg ?_
      refine To.rd rfl rfl rfl (Rd.move rfl rfl) ?_
      refine To.rd rfl rfl rfl (Rd.inc rfl rfl rfl (by omega)) ?_
      refine To.rd rfl rfl rfl (Rd.assign rfl rfl) ?_
      refine To.nil ?_
      refine To.thenN ?_
      have hlast : ∀ z, p.getLast? = some z → ¬ Ms.cmp x z < 0 := fun z hz => by
        rcases hstop with h0 | h0
        · rw [List.eq_nil_of_length_eq_zero h0] at hz; simp at hz
        · exact h0 z hz
      have hnext : (p ++ x :: (q ++ l.drop (i + 1))) = isort Ms.cmp (l.take (i + 1)) ++ l.drop (i + 1) := by rw [isort_next hx hpq hq hlast]; simp
      refine To.sub [(0, .slice A ((isort Ms.cmp (l.take (i + 1)) ++ l.drop (i + 1)).length) cap), (1, .int .i64 0), (2, .int .i64 ((l.length : Nat) : Int)), (3, .func (.func 23) #[] #[]), (8, .int .i64 (((i + 1) : Nat) : Int))] ⟨(congrArg (fun n : Nat => some (Value.slice A n cap)) (congrArg List.length hnext)), rfl, rfl, rfl, rfl, trivial⟩ ?_
      refine To.only [0] rfl ?_
      refine To.as [rows Ms.cells 33 3 A cap (isort Ms.cmp (l.take (i + 1)) ++ l.drop (i + 1))] (by rw [hnext]) ?_
      refine To.again (l.length - (i + 1)) (by omega) ⟨i + 1, rfl, rfl, rfl, (by omega)⟩
  ·
    refine To.exit ?_
    refine To.thenX ?_
    refine To.thenX ?_
    refine To.blockX ?_
    refine To.end0 (.inr rfl) Try.results51 ?_
    exact ⟨rfl, by rw [show l.take i = l from List.take_of_length_le (by omega), List.drop_eq_nil_of_le (by omega), List.append_nil]⟩
set_option maxHeartbeats 2000000 in
set_option maxRecDepth 100000 in
theorem pdqMessage_fn (A : Option Addr) (cap : Nat) (l : List Ms) (hl : l.length ≤ 12) (k : Int) :
    Does Try.prog 45 [.slice A l.length cap, .int .i64 0, .int .i64 ((l.length : Nat) : Int), .int .i64 k, .func (.func 23) #[] #[]] [rows Ms.cells 33 3 A cap l] (fun v Γ' => v = .tuple #[] ∧ Γ' = [rows Ms.cells 33 3 A cap (isort Ms.cmp l)]) := by
  refine Does.enter Try.func45 rfl Try.ntmps45 rfl (fun w0 => ?_)
  refine To.seq ?_
  refine To.reg ?_
  refine To.rd rfl rfl rfl (Rd.assign rfl rfl) ?_
  refine To.nil ?_
  refine To.thenN ?_
  refine To.seq ?_
  refine To.reg ?_
  refine To.rd rfl rfl rfl (Rd.assign rfl rfl) ?_
  refine To.nil ?_
  refine To.thenN ?_
  refine To.block ?_
  refine To.loopOnce ?_
  refine To.block ?_
  refine To.seq ?_
  refine To.reg ?_
  refine To.rd rfl rfl rfl (Rd.move rfl rfl) ?_
  refine To.rd rfl rfl rfl (Rd.move rfl rfl) ?_
  refine To.rd rfl rfl rfl (Rd.sub64 rfl rfl rfl (by omega)) ?_
  refine To.rd rfl rfl rfl (Rd.assign rfl rfl) ?_
  refine To.nil ?_
  refine To.thenN ?_
  refine To.seq ?_
  refine To.seq ?_
  refine To.reg ?_
  refine To.rd rfl rfl rfl (Rd.move rfl rfl) ?_
  refine To.rd rfl rfl rfl (Rd.leq rfl rfl rfl) ?_
  refine To.nil ?_
  refine To.thenN ?_
  refine To.condP rfl (fun c25 => ?_) (fun c25 => ?_)
  ·
    refine To.seq ?_
    refine To.reg ?_
    refine To.rd rfl rfl rfl (Rd.move rfl rfl) ?_
    refine To.rd rfl rfl rfl (Rd.move rfl rfl) ?_
    refine To.rd rfl rfl rfl (Rd.move rfl rfl) ?_
    refine To.rd rfl rfl rfl (Rd.move rfl rfl) ?_
    refine To.call [0] rfl rfl rfl (Ent.fn rfl rfl ca51) rfl (insMessage_fn A cap l hl) ?_
    rintro _ _ ⟨rfl, rfl⟩
    refine To.as [rows Ms.cells 33 3 A cap (isort Ms.cmp l)] rfl ?_
    refine To.nil ?_
    refine To.thenN ?_
    refine To.ret ?_
    refine To.thenR ?_
    refine To.blockR ?_
    refine To.thenR ?_
    refine To.blockR ?_
    refine To.end0 (.inl rfl) Try.results45 ?_
    exact ⟨rfl, rfl⟩
  ·
    exact absurd (by omega) c25
set_option maxHeartbeats 2000000 in
set_option maxRecDepth 100000 in
theorem sortMessage_fn (A : Option Addr) (cap : Nat) (l : List Ms) (hl : l.length ≤ 12) :
    Does Try.prog 37 [.slice A l.length cap, .func (.func 23) #[] #[]] [rows Ms.cells 33 3 A cap l] (fun v Γ' => v = .tuple #[] ∧ Γ' = [rows Ms.cells 33 3 A cap (isort Ms.cmp l)]) := by
  refine Does.enter Try.func37 rfl Try.ntmps37 rfl (fun w0 => ?_)
  refine To.seq ?_
  refine To.reg ?_
  refine To.rd rfl rfl rfl (Rd.move rfl rfl) ?_
  refine To.rd rfl rfl rfl (Rd.len rfl rfl Try.underlying23) ?_
  refine To.rd rfl rfl rfl (Rd.assign rfl rfl) ?_
  refine To.nil ?_
  refine To.thenN ?_
  refine To.reg ?_
  refine To.rd rfl rfl rfl (Rd.move rfl rfl) ?_
  refine To.rd rfl rfl rfl (Rd.move rfl rfl) ?_
  refine To.rd rfl rfl rfl (Rd.move rfl rfl) ?_
  refine To.rd rfl rfl rfl (Rd.conv rfl rfl Try.underlying3 Try.underlying82 (wrapU (by first | omega | (simp only [List.length_append, List.length_cons, List.length_nil]; omega)))) ?_
  refine To.callQ rfl rfl rfl (Ent.fn rfl rfl ca46) (blen_fn l.length (by omega)) rfl (oks_nil _) ?_
  rintro _ _ ⟨k1, rfl, rfl⟩
  refine ⟨rfl, ?_⟩
  refine To.as [rows Ms.cells 33 3 A cap l] rfl ?_
  refine To.rd rfl rfl rfl (Rd.move rfl rfl) ?_
  refine To.call [0] rfl rfl rfl (Ent.fn rfl rfl ca45) rfl (pdqMessage_fn A cap l hl k1) ?_
  rintro _ _ ⟨rfl, rfl⟩
  refine To.as [rows Ms.cells 33 3 A cap (isort Ms.cmp l)] rfl ?_
  refine To.nil ?_
  refine To.end0 (.inr rfl) Try.results37 ?_
  exact ⟨rfl, rfl⟩
set_option maxHeartbeats 2000000 in
set_option maxRecDepth 100000 in
theorem sortedMessage_fn (A : Option Addr) (cap : Nat) (l : List Ms) (hl : l.length ≤ 12) :
    Does Try.prog 22 [.slice A l.length cap, .func (.func 23) #[] #[]] [ros Ms.cells A l] (fun v Γ' => ∃ B q, v = .slice B (isort Ms.cmp l).length q ∧ Γ' = [rows Ms.cells 33 3 B q (isort Ms.cmp l)]) := by
  refine Does.enter Try.func22 rfl Try.ntmps22 rfl (fun w0 => ?_)
  refine To.seq ?_
  refine To.reg ?_
  refine To.rd rfl rfl rfl (Rd.assign rfl rfl) ?_
  refine To.nil ?_
  refine To.thenN ?_
  refine To.seq ?_
  refine To.nilRow (Ms.cells) 33 3 ?_
  refine To.reg ?_
  refine To.rd rfl rfl rfl (Rd.move rfl rfl) ?_
  refine To.ge rfl rfl rfl (Ge.appendL encM (i := 0) (m := l) rfl s23 rfl rfl rfl (src_ro (i := 1) rfl) (by first | omega | (simp only [List.length_append, List.length_cons, List.length_nil]; omega)) (by first | omega | (simp only [List.length_append, List.length_cons, List.length_nil]; omega))) ?_
  rintro _ _ ⟨A7, q7, rfl, rfl⟩
  refine To.as [rows Ms.cells 33 3 A7 q7 (([] : List Ms) ++ l), ros Ms.cells A l] rfl ?_
  refine To.rd rfl rfl rfl (Rd.assign rfl rfl) ?_
  refine To.nil ?_
  refine To.thenN ?_
  refine To.seq ?_
  refine To.reg ?_
  refine To.rd rfl rfl rfl (Rd.move rfl rfl) ?_
  refine To.rd rfl rfl rfl (Rd.move rfl rfl) ?_
  refine To.call [0] rfl rfl rfl (Ent.fn rfl rfl ca37) rfl (sortMessage_fn A7 q7 l hl) ?_
  rintro _ _ ⟨rfl, rfl⟩
  refine To.as [rows Ms.cells 33 3 A7 q7 (isort Ms.cmp l), ros Ms.cells A l] rfl ?_
  refine To.nil ?_
  refine To.thenN ?_
  refine To.seq ?_
  refine To.sub [(5, .slice A7 ((isort Ms.cmp l).length) q7)] ⟨congrArg (fun n : Nat => some (Value.slice A7 n q7)) (isort_len l).symm, trivial⟩ ?_
  refine To.reg ?_
  refine To.rd rfl rfl rfl (Rd.move rfl rfl) ?_
  refine To.rd rfl rfl rfl (Rd.assign rfl rfl) ?_
  refine To.nil ?_
  refine To.thenN ?_
  refine To.ret ?_
  refine To.only [0] rfl ?_
  refine To.end1 (.inl rfl) Try.results22 rfl ?_
  exact ⟨_, _, rfl, rfl⟩
set_option maxHeartbeats 2000000 in
set_option maxRecDepth 100000 in
theorem srtMessage_fn (A : Option Addr) (cap : Nat) (l : List Ms) (hl : l.length ≤ 12) :
    Does Try.prog 21 [.slice A l.length cap] [ros Ms.cells A l] (fun v Γ' => ∃ B q, v = .slice B (isort Ms.cmp l).length q ∧ Γ' = [rows Ms.cells 33 3 B q (isort Ms.cmp l)]) := by
  refine Does.enter Try.func21 rfl Try.ntmps21 rfl (fun w0 => ?_)
  refine To.seq ?_
  refine To.reg ?_
  refine To.rd rfl rfl rfl (Rd.assign rfl rfl) ?_
  refine To.nil ?_
  refine To.thenN ?_
  refine To.seq ?_
  refine To.reg ?_
  refine To.rd rfl rfl rfl (Rd.move rfl rfl) ?_
  refine To.callQ rfl rfl rfl (Ent.fn rfl rfl ca22) (sortedMessage_fn A cap l hl) rfl (oks_cons (oks_at 0 rfl) (oks_nil _)) ?_
  rintro _ _ ⟨B, q, rfl, rfl⟩
  refine ⟨rfl, ?_⟩
  refine To.as [rows Ms.cells 33 3 B q (isort Ms.cmp l), ros Ms.cells A l] rfl ?_
  refine To.rd rfl rfl rfl (Rd.assign rfl rfl) ?_
  refine To.nil ?_
  refine To.thenN ?_
  refine To.ret ?_
  refine To.only [0] rfl ?_
  refine To.end1 (.inl rfl) Try.results21 rfl ?_
  exact ⟨_, _, rfl, rfl⟩
set_option maxHeartbeats 2000000 in
set_option maxRecDepth 100000 in
theorem cfunMessage_fn (A B : Option Addr) (ca cb : Nat) (l m : List Ms) (hl : l.length ≤ 1000000000000) :
    Does Try.prog 27 [.slice A l.length ca, .slice B m.length cb, .func (.func 23) #[] #[]] [ros Ms.cells A l, ros Ms.cells B m] (fun v _ => v = .int .i64 (cmpBy Ms.cmp l m)) := by
  refine Does.enter Try.func27 rfl Try.ntmps27 rfl (fun w0 => ?_)
  refine To.seq ?_
  refine To.reg ?_
  refine To.rd rfl rfl rfl (Rd.assign rfl rfl) ?_
  refine To.nil ?_
  refine To.thenN ?_
  refine To.seq ?_
  refine To.seq ?_
  refine To.reg ?_
  refine To.rd rfl rfl rfl (Rd.move rfl rfl) ?_
  refine To.rd rfl rfl rfl (Rd.len rfl rfl Try.underlying23) ?_
  refine To.rd rfl rfl rfl (Rd.move rfl rfl) ?_
  refine To.nil ?_
  refine To.thenN ?_
  refine To.block ?_
  refine To.sub [(0, .slice A l.length ca), (1, .slice B m.length cb), (2, .func (.func 23) #[] #[]), (11, .slice A l.length ca), (12, .int .i64 ((l.length : Nat) : Int)), (13, .int .i64 ((0 : Nat) : Int))] ⟨rfl, rfl, rfl, rfl, rfl, rfl, trivial⟩ ?_
  refine To.only [0, 0] rfl ?_
  refine To.loop (fun mz ρ Γ => ∃ (i : Nat), ρ = [(0, .slice A l.length ca), (1, .slice B m.length cb), (2, .func (.func 23) #[] #[]), (11, .slice A l.length ca), (12, .int .i64 ((l.length : Nat) : Int)), (13, .int .i64 ((i : Nat) : Int))] ∧ Γ = [ros Ms.cells A l, ros Ms.cells B m] ∧ mz = l.length - i ∧ (i ≤ l.length ∧ i ≤ m.length) ∧ (cmpBy Ms.cmp l m = cmpBy Ms.cmp (l.drop i) (m.drop i))) (l.length - 0) ⟨0, rfl, rfl, rfl, ⟨Nat.zero_le _, Nat.zero_le _⟩, rfl⟩ ?_
  rintro mz _ _ ⟨i, rfl, rfl, rfl, hi, hI⟩
  refine To.seq ?_
  refine To.reg ?_
  refine To.rd rfl rfl rfl (Rd.lss rfl rfl rfl) ?_
  refine To.nil ?_
  refine To.thenN ?_
  refine To.seq ?_
  refine To.condP rfl (fun c14 => ?_) (fun c14 => ?_)
  ·
    obtain ⟨x, hx⟩ : ∃ z0, l[i]? = some z0 := ⟨l[i]'(by omega), List.getElem?_eq_getElem _⟩
    refine To.skip ?_
    refine To.thenN ?_
    refine To.seq ?_
    refine To.block ?_
    refine To.seq ?_
    refine To.reg ?_
    refine To.rd rfl rfl rfl (Rd.move rfl rfl) ?_
    refine To.rd rfl rfl rfl (Rd.indexRos encM (i := 0) (j := i) rfl rfl rfl s23 rfl hx) ?_
    refine To.rd rfl rfl rfl (Rd.loadS (i := 0) rfl rfl r33 rfl (ros_gives encM hx) (encM.len _)) ?_
    refine To.alloc rfl rfl rfl rfl z33 (fun b8 => ?_)
    refine To.rd rfl rfl rfl (Rd.assign rfl rfl) ?_
    refine To.up rfl rfl (Up.storeS (i := 0) rfl rfl rfl r33 rfl rfl rfl (box_takesAll rfl)) ?_
    refine To.nil ?_
    refine To.thenN ?_
    refine To.seq ?_
    refine To.seq ?_
    refine To.reg ?_
    refine To.rd rfl rfl rfl (Rd.move rfl rfl) ?_
    refine To.rd rfl rfl rfl (Rd.move rfl rfl) ?_
    refine To.rd rfl rfl rfl (Rd.len rfl rfl Try.underlying23) ?_
    refine To.rd rfl rfl rfl (Rd.geq rfl rfl rfl) ?_
    refine To.nil ?_
    refine To.thenN ?_
    refine To.condP rfl (fun c21 => ?_) (fun c21 => ?_)
    ·
      refine To.seq ?_
      refine To.reg ?_
      refine To.rd rfl rfl rfl (Rd.assign rfl rfl) ?_
      refine To.nil ?_
      refine To.thenN ?_
      refine To.ret ?_
      refine To.thenR ?_
      refine To.blockR ?_
      refine To.thenR ?_
      refine To.thenR ?_
      refine To.blockR ?_
      refine To.thenR ?_
      refine To.end1 (.inl rfl) Try.results27 rfl ?_
      rw [hI, drop_of_get hx, show m.drop i = [] from List.drop_eq_nil_of_le (by omega)]; rfl
    ·
      obtain ⟨y, hy⟩ : ∃ z0, m[i]? = some z0 := ⟨m[i]'(by omega), List.getElem?_eq_getElem _⟩
      refine To.skip ?_
      refine To.thenN ?_
      refine To.seq ?_
      refine To.reg ?_
      refine To.rd rfl rfl rfl (Rd.move rfl rfl) ?_
      refine To.rd rfl rfl rfl (Rd.move rfl rfl) ?_
      refine To.rd rfl rfl rfl (Rd.indexRos encM (i := 2) (j := i) rfl rfl rfl s23 rfl hy) ?_
      refine To.rd rfl rfl rfl (Rd.loadS (i := 2) rfl rfl r33 rfl (ros_gives encM hy) (encM.len _)) ?_
      refine To.alloc rfl rfl rfl rfl z33 (fun b9 => ?_)
      refine To.up rfl rfl (Up.storeS (i := 0) rfl rfl rfl r33 rfl rfl rfl (box_takesAll rfl)) ?_
      refine To.nil ?_
      refine To.thenN ?_
      refine To.seq ?_
      refine To.reg ?_
      refine To.rd rfl rfl rfl (Rd.move rfl rfl) ?_
      refine To.rd rfl rfl rfl (Rd.loadS (i := 1) rfl rfl r33 rfl box_whole rfl) ?_
      refine To.rd rfl rfl rfl (Rd.loadS (i := 0) rfl rfl r33 rfl box_whole rfl) ?_
      refine To.callV rfl rfl rfl (Ent.func (first := []) (captured := []) rfl rfl rfl ca23) (cmsg_fn x y) rfl (oks_nil _) ?_
      refine To.rd rfl rfl rfl (Rd.assign rfl rfl) ?_
      refine To.nil ?_
      refine To.sub [(0, .slice A l.length ca), (1, .slice B m.length cb), (2, .func (.func 23) #[] #[]), (11, .slice A l.length ca), (12, .int .i64 ((l.length : Nat) : Int)), (13, .int .i64 ((i : Nat) : Int)), (14, .bool (decide (((i : Nat) : Int) < ((l.length : Nat) : Int)))), (8, .pointer (some ⟨b8, 0, none⟩)), (7, .int .i64 ((i : Nat) : Int)), (21, .bool (decide (((m.length : Nat) : Int) ≤ ((i : Nat) : Int)))), (9, .pointer (some ⟨b9, 0, none⟩)), (10, .int .i64 (x.cmp y))] ⟨rfl, rfl, rfl, rfl, rfl, rfl, rfl, rfl, rfl, rfl, rfl, rfl, trivial⟩ ?_
      refine To.thenN ?_
      refine To.seq ?_
      refine To.reg ?_
      refine To.rd rfl rfl rfl (Rd.move rfl rfl) ?_
      refine To.rd rfl rfl rfl (Rd.neq rfl rfl rfl) ?_
      refine To.nil ?_
      refine To.thenN ?_
      refine To.condP rfl (fun c31 => ?_) (fun c31 => ?_)
      ·
        refine To.seq ?_
        refine To.reg ?_
        refine To.rd rfl rfl rfl (Rd.move rfl rfl) ?_
        refine To.rd rfl rfl rfl (Rd.assign rfl rfl) ?_
        refine To.nil ?_
        refine To.thenN ?_
        refine To.ret ?_
        refine To.blockR ?_
        refine To.thenR ?_
        refine To.thenR ?_
        refine To.blockR ?_
        refine To.thenR ?_
        refine To.end1 (.inl rfl) Try.results27 rfl ?_
        rw [hI, cmpBy_step hx hy, if_neg (by simpa using c31)]
      ·
        refine To.skip ?_
        refine To.blockN ?_
        refine To.thenN ?_
        refine To.reg ?_
        refine To.rd rfl rfl rfl (Rd.inc rfl rfl rfl (by omega)) ?_
        refine To.rd rfl rfl rfl (Rd.move rfl rfl) ?_
        refine To.nil ?_
        refine To.thenN ?_
        refine To.sub [(0, .slice A l.length ca), (1, .slice B m.length cb), (2, .func (.func 23) #[] #[]), (11, .slice A l.length ca), (12, .int .i64 ((l.length : Nat) : Int)), (13, .int .i64 (((i + 1) : Nat) : Int))] ⟨rfl, rfl, rfl, rfl, rfl, rfl, trivial⟩ ?_
        refine To.only [2, 2] rfl ?_
        refine To.again (l.length - (i + 1)) (by omega) ⟨i + 1, rfl, rfl, rfl, (by omega), (by rw [hI, cmpBy_step hx hy, if_pos (by simpa using c31)])⟩
  ·
    refine To.exit ?_
    refine To.thenX ?_
    refine To.thenX ?_
    refine To.blockX ?_
    refine To.thenN ?_
    refine To.seq ?_
    refine To.seq ?_
    refine To.reg ?_
    refine To.rd rfl rfl rfl (Rd.move rfl rfl) ?_
    refine To.rd rfl rfl rfl (Rd.len rfl rfl Try.underlying23) ?_
    refine To.rd rfl rfl rfl (Rd.move rfl rfl) ?_
    refine To.rd rfl rfl rfl (Rd.len rfl rfl Try.underlying23) ?_
    refine To.rd rfl rfl rfl (Rd.lss rfl rfl rfl) ?_
    refine To.nil ?_
    refine To.thenN ?_
    refine To.condP rfl (fun c38 => ?_) (fun c38 => ?_)
    ·
      refine To.seq ?_
      refine To.reg ?_
      refine To.rd rfl rfl rfl (Rd.assign rfl rfl) ?_
      refine To.nil ?_
      refine To.thenN ?_
      refine To.ret ?_
      refine To.thenR ?_
      refine To.end1 (.inl rfl) Try.results27 rfl ?_
      obtain rfl : i = l.length := by omega
      obtain ⟨y, hy⟩ : ∃ y, m[l.length]? = some y := ⟨m[l.length]'(by omega), List.getElem?_eq_getElem _⟩
      rw [hI, List.drop_length, drop_of_get hy]; rfl
    ·
      refine To.skip ?_
      refine To.thenN ?_
      refine To.seq ?_
      refine To.reg ?_
      refine To.rd rfl rfl rfl (Rd.assign rfl rfl) ?_
      refine To.nil ?_
      refine To.thenN ?_
      refine To.ret ?_
      refine To.end1 (.inl rfl) Try.results27 rfl ?_
      rw [hI, List.drop_eq_nil_of_le (by omega), List.drop_eq_nil_of_le (by omega)]; rfl
end Go.Proofs.Ytnghonabedcacaa

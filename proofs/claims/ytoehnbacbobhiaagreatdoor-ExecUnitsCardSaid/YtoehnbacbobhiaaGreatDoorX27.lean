/- Whole numbers sorted and sought. Own text (walks printed by sx.py). -/
import Derived.Test.YtoehnbacbobhiaaGreatDoorL1
import Derived.Test.YtoehnbacbobhiaaGreatDoorX25
set_option linter.unusedVariables false
set_option linter.unusedSimpArgs false
namespace Go.Proofs.YtoehnbacbobhiaaGreatDoor
open Go.RowKit Go.Flow Go.Mem Go.Sep
set_option maxHeartbeats 2000000 in
set_option maxRecDepth 100000 in
theorem nanI_fn (a : Int) :
    Does Tryz.prog 83 [.int .i64 a] [] (fun v _ => v = .bool false) := by
  refine Does.enter Tryz.func83 rfl Tryz.ntmps83 rfl (fun w0 => ?_)
  refine To.seq (To.reg (To.a (To.nil (To.thenN (To.seq (To.reg ?_))))))
  refine To.m ?_
  refine To.m ?_
  refine To.r (Rd.neq rfl rfl rfl) ?_
  refine To.a (To.nil (To.thenN (To.ret ?_)))
  refine To.end1 (.inl rfl) Tryz.results83 rfl ?_
  simp
set_option maxHeartbeats 2000000 in
set_option maxRecDepth 100000 in
theorem nanS_fn (a : Int) :
    Does Tryz.prog 95 [.int .i64 a] [] (fun v _ => v = .bool false) := by
  refine Does.enter Tryz.func95 rfl Tryz.ntmps95 rfl (fun w0 => ?_)
  refine To.seq (To.reg (To.a (To.nil (To.thenN (To.seq (To.reg ?_))))))
  refine To.m ?_
  refine To.m ?_
  refine To.r (Rd.neq rfl rfl rfl) ?_
  refine To.a (To.nil (To.thenN (To.ret ?_)))
  refine To.end1 (.inl rfl) Tryz.results95 rfl ?_
  simp
set_option maxHeartbeats 2000000 in
set_option maxRecDepth 100000 in
theorem lessI_fn (a b : Int) :
    Does Tryz.prog 58 [.int .i64 a, .int .i64 b] [] (fun v _ => v = .bool (decide (a < b))) := by
  refine Does.enter Tryz.func58 rfl Tryz.ntmps58 rfl (fun w0 => ?_)
  refine To.seq (To.reg (To.a (To.nil (To.thenN (To.seq (To.reg ?_))))))
  refine To.m ?_
  refine To.callV rfl rfl rfl (Ent.fn rfl rfl ca83) (nanI_fn a) rfl (oks_nil _) ?_
  refine To.m ?_
  refine To.k ?_
  refine To.k ?_
  refine To.k ?_
  refine To.r (Rd.pickF rfl rfl rfl) ?_
  refine To.m ?_
  refine To.m ?_
  refine To.m ?_
  refine To.r (Rd.lss rfl rfl rfl) ?_
  refine To.r (Rd.pickF rfl rfl rfl) ?_
  refine To.a (To.nil (To.thenN (To.ret ?_)))
  refine To.end1 (.inl rfl) Tryz.results58 rfl ?_
  rfl
set_option maxHeartbeats 2000000 in
set_option maxRecDepth 100000 in
theorem insI_fn (A : Option Addr) (cap : Nat) (l : List Int) (hl : l.length ≤ 12) :
    Does Tryz.prog 52 [.slice A l.length cap, .int .i64 0, .int .i64 ((l.length : Nat) : Int)] [rows encI 3 1 A cap l] (fun v Γ' => v = .tuple #[] ∧ Γ' = [rows encI 3 1 A cap (isort cmpI l)]) := by
  refine Does.enter Tryz.func52 rfl Tryz.ntmps52 rfl (fun w0 => ?_)
  refine To.seq (To.reg (To.m ?_))
  refine To.r (Rd.add64 rfl rfl rfl (by omega)) ?_
  refine To.a (To.nil (To.thenN (To.block ?_)))
  refine To.sub [(0, .slice A ((isort cmpI (l.take 1) ++ l.drop 1).length) cap), (1, .int .i64 0), (2, .int .i64 ((l.length : Nat) : Int)), (6, .int .i64 ((1 : Nat) : Int))] ⟨(congrArg (fun n : Nat => some (Value.slice A n cap)) (congrArg List.length (isort_one l).symm)), rfl, rfl, rfl, trivial⟩ ?_
  refine To.only [0] rfl ?_
  refine To.as [rows encI 3 1 A cap (isort cmpI (l.take 1) ++ l.drop 1)] (by rw [isort_one] <;> rfl) ?_
  refine To.loop (fun mz ρ Γ => ∃ (i : Nat), ρ = [(0, .slice A ((isort cmpI (l.take i) ++ l.drop i).length) cap), (1, .int .i64 0), (2, .int .i64 ((l.length : Nat) : Int)), (6, .int .i64 ((i : Nat) : Int))] ∧ Γ = [rows encI 3 1 A cap (isort cmpI (l.take i) ++ l.drop i)] ∧ mz = l.length - i ∧ (1 ≤ i ∧ (i ≤ l.length ∨ l.length = 0))) (l.length - 1) ⟨1, rfl, rfl, rfl, (by omega)⟩ ?_
  rintro mz _ _ ⟨i, rfl, rfl, rfl, hi⟩
  refine To.seq (To.seq (To.reg (To.m ?_)))
  refine To.m ?_
  refine To.r (Rd.lss rfl rfl rfl) ?_
  refine To.nil (To.thenN ?_)
  refine To.condP rfl (fun c12 => ?_) (fun c12 => ?_)
  ·
   refine To.skip (To.thenN (To.seq (To.block (To.seq (To.reg (To.m ?_))))))
   refine To.a (To.nil (To.thenN (To.block ?_)))
   obtain ⟨x, hx⟩ : ∃ z0, l[i]? = some z0 := ⟨l[i]'(by omega), List.getElem?_eq_getElem _⟩
   have hlen : (isort cmpI (l.take i)).length = i := by rw [isort_len, List.length_take]; omega
   have hd0 := drop_of_get hx
   refine To.sub [(0, .slice A (((isort cmpI (l.take i)) ++ x :: ([] ++ l.drop (i + 1))).length) cap), (1, .int .i64 0), (2, .int .i64 ((l.length : Nat) : Int)), (6, .int .i64 ((i : Nat) : Int)), (7, .int .i64 (((isort cmpI (l.take i)).length : Nat) : Int))] ⟨(congrArg (fun n : Nat => some (Value.slice A n cap)) (congrArg (fun d => (isort cmpI (l.take i) ++ d).length) hd0)), rfl, rfl, rfl, (congrArg (fun n : Nat => some (Value.int .i64 (n : Int))) hlen.symm), trivial⟩ ?_
   refine To.only [0] rfl ?_
   refine To.as [rows encI 3 1 A cap ((isort cmpI (l.take i)) ++ x :: ([] ++ l.drop (i + 1)))] (by rw [hd0]; rfl) ?_
   refine To.loop (fun mz ρ Γ => ∃ (p : List Int) (q : List Int), ρ = [(0, .slice A ((p ++ x :: (q ++ l.drop (i + 1))).length) cap), (1, .int .i64 0), (2, .int .i64 ((l.length : Nat) : Int)), (6, .int .i64 ((i : Nat) : Int)), (7, .int .i64 ((p.length : Nat) : Int))] ∧ Γ = [rows encI 3 1 A cap (p ++ x :: (q ++ l.drop (i + 1)))] ∧ mz = p.length ∧ (isort cmpI (l.take i) = p ++ q) ∧ (∀ z ∈ q, cmpI x z < 0)) ((isort cmpI (l.take i)).length) ⟨(isort cmpI (l.take i)), [], rfl, rfl, rfl, ((List.append_nil _).symm), (fun z hz => absurd hz List.not_mem_nil)⟩ ?_
   rintro mz _ _ ⟨p, q, rfl, rfl, rfl, hpq, hq⟩
   have hln : (p ++ x :: (q ++ l.drop (i + 1))).length = l.length := by
     have h1 := congrArg List.length hpq
     rw [isort_len, List.length_take, List.length_append] at h1
     simp only [List.length_append, List.length_cons, List.length_drop]; omega
   have hpi : p.length < l.length := by rw [← hln]; simp only [List.length_append, List.length_cons]; omega
   refine To.seq (To.seq ?_)
   have hgx : (p ++ x :: (q ++ l.drop (i + 1)))[p.length]? = some x := get_mid _ _ _
   refine To.flow [] [⟨0, [], 0⟩, ⟨1, [], 0⟩, ⟨2, [], 0⟩, ⟨3, [], 0⟩, ⟨4, [], 0⟩, ⟨5, [], 0⟩, ⟨8, [], 0⟩, ⟨9, [], 0⟩, ⟨10, [], 0⟩, ⟨6, [], 1⟩, ⟨7, [], 1⟩, ⟨11, [], 1⟩, ⟨12, [], 1⟩, ⟨13, [], 3⟩, ⟨14, [], 0⟩] mixed (by kernel_rfl) (oks_nil _) ?_
   refine FlowS.mo ?_
   refine FlowS.mo ?_
   refine FlowS.f rfl (Rd.gtr rfl rfl rfl) ?_
   refine FlowS.rdP rfl rfl rfl rfl (Rd.move rfl rfl) (fun g19 => ?_) (fun g19 => ?_)
   ·
    have hpp : 0 < p.length := by omega
    obtain ⟨p', y, hp⟩ := snoc_of_pos hpp
    have hgy : (p ++ x :: (q ++ l.drop (i + 1)))[p.length - 1]? = some y := by rw [hp]; simp
    refine FlowS.mo ?_
    refine FlowS.mo ?_
    refine FlowS.mo ?_
    refine FlowS.mo ?_
    refine FlowS.f rfl (Rd.as (v' := .int .i64 ((p.length - 1 : Nat) : Int)) (congrArg (Value.int .i64) (by omega)) (Rd.sub64 rfl rfl rfl (by omega))) ?_
    refine FlowS.r rfl (Rd.indexRows (i := 0) (j := p.length) rfl rfl rfl s48 rfl hgx) ?_
    refine FlowS.r rfl (Rd.load (i := 0) rfl rfl c3 rfl (gives_1 (rows_gives encI_ok hgx) rfl)) ?_
    refine FlowS.r rfl (Rd.indexRows (i := 0) (j := (p.length - 1)) rfl rfl rfl s48 rfl hgy) ?_
    refine FlowS.r rfl (Rd.load (i := 0) rfl rfl c3 rfl (gives_1 (rows_gives encI_ok hgy) rfl)) ?_
    refine FlowS.callQ rfl rfl rfl rfl (Ent.fn rfl rfl ca58) (lessI_fn x y) rfl (oks_nil _) ?_
    refine FlowS.f rfl (Rd.pickT rfl rfl rfl) ?_
    refine FlowS.fin ?_
    refine To.thenN ?_
    refine To.condP rfl (fun c30 => ?_) (fun c30 => ?_)
    ·
     have hxy := cmpI_neg.2 c30
     refine To.skip (To.thenN (To.seq (To.block ?_)))
     have hl2 : ((p ++ x :: (q ++ l.drop (i + 1))).set p.length y).length = l.length := by rw [List.length_set]; exact hln
     refine To.know (p := A = some ⟨blk A, ofs A, none⟩) (fun w hw => rows_some encI_ok (by decide) (l := (p ++ x :: (q ++ l.drop (i + 1)))) (by rw [hln]; omega) 0 rfl hw) (fun hA => ?_)
     refine To.flow [] [⟨0, [], 0⟩, ⟨1, [], 0⟩, ⟨2, [], 0⟩, ⟨3, [], 0⟩, ⟨4, [], 0⟩, ⟨5, [], 0⟩, ⟨6, [], 0⟩, ⟨7, [], 0⟩, ⟨8, [], 0⟩, ⟨10, [], 0⟩, ⟨11, [], 0⟩, ⟨12, [], 0⟩, ⟨9, [], 1⟩, ⟨13, [], 1⟩, ⟨14, [], 0⟩, ⟨15, [], 5⟩, ⟨16, [], 0⟩, ⟨17, [], 5⟩] mixed (by kernel_rfl) (oks_nil _) ?_
     refine FlowS.mo ?_
     refine FlowS.mo ?_
     refine FlowS.mo ?_
     refine FlowS.mo ?_
     refine FlowS.f rfl (Rd.as (v' := .int .i64 ((p.length - 1 : Nat) : Int)) (congrArg (Value.int .i64) (by omega)) (Rd.sub64 rfl rfl rfl (by omega))) ?_
     refine FlowS.mo ?_
     refine FlowS.mo ?_
     refine FlowS.f rfl (Rd.as (v' := .int .i64 ((p.length - 1 : Nat) : Int)) (congrArg (Value.int .i64) (by omega)) (Rd.sub64 rfl rfl rfl (by omega))) ?_
     refine FlowS.f rfl (Rd.indexS (j := (p.length - 1)) hA rfl rfl rfl s48 (by rw [hln]; omega)) ?_
     refine FlowS.mo ?_
     refine FlowS.mo ?_
     refine FlowS.f rfl (Rd.indexS (j := p.length) hA rfl rfl rfl s48 (by rw [hln]; omega)) ?_
     refine FlowS.r rfl (Rd.load (i := 0) rfl rfl c3 rfl (gives_1 (rows_gives encI_ok hgy) rfl)) ?_
     refine FlowS.r rfl (Rd.load (i := 0) rfl rfl c3 rfl (gives_1 (rows_gives encI_ok hgx) rfl)) ?_
     refine FlowS.f rfl (Rd.indexS (j := p.length) hA rfl rfl rfl s48 (by rw [hln]; omega)) ?_
     refine FlowS.up rfl rfl rfl (Up.store (i := 0) rfl rfl rfl c3 rfl rfl (rows_takes encI_ok (y := y) (by decide) (by omega))) (oks_nil _) ?_
     refine FlowS.f rfl (Rd.indexS (j := (p.length - 1)) hA rfl rfl rfl s48 (by rw [hln]; omega)) ?_
     refine FlowS.up rfl rfl rfl (Up.store (i := 0) rfl rfl rfl c3 rfl rfl (rows_takes encI_ok (y := x) (by decide) (by omega))) (oks_nil _) ?_
     refine FlowS.fin ?_
     refine To.blockN (To.thenN (To.reg (To.m ?_)))
     refine To.r (Rd.as (v' := .int .i64 ((p.length - 1 : Nat) : Int)) (congrArg (Value.int .i64) (by omega)) (Rd.sub64 rfl rfl rfl (by omega))) ?_
     refine To.a (To.nil (To.thenN ?_))
     have hsw := swap_set p' (q ++ l.drop (i + 1)) x y
     have hpl : p.length - 1 = p'.length := by rw [hp]; simp
     refine To.sub [(0, .slice A ((p' ++ x :: ((y :: q) ++ l.drop (i + 1))).length) cap), (1, .int .i64 0), (2, .int .i64 ((l.length : Nat) : Int)), (6, .int .i64 ((i : Nat) : Int)), (7, .int .i64 ((p'.length : Nat) : Int))] ⟨(congrArg (fun n : Nat => some (Value.slice A n cap)) (by rw [hp]; simp)), rfl, rfl, rfl, (congrArg (fun n : Nat => some (Value.int .i64 (n : Int))) hpl), trivial⟩ ?_
     refine To.only [0] rfl ?_
     refine To.as [rows encI 3 1 A cap (p' ++ x :: ((y :: q) ++ l.drop (i + 1)))] (by rw [hpl, hp]; rw [hsw]; rfl) ?_
     refine To.again (p'.length) (by rw [hp]; simp) ⟨p', (y :: q), rfl, rfl, rfl, (by rw [hpq, hp]; simp), (fun z hz => by
       rcases List.mem_cons.1 hz with rfl | hz
       · exact hxy
       · exact hq z hz)⟩
    have hstop : p.length = 0 ∨ ∀ z, p.getLast? = some z → ¬ cmpI x z < 0 := .inr (fun z hz => by rw [hp] at hz; simp at hz; subst hz; exact fun h => c30 (cmpI_neg.1 h))
    refine To.exit (To.thenX (To.thenX (To.blockX (To.blockN (To.thenN (To.reg (To.m ?_)))))))
    refine To.r (Rd.inc rfl rfl rfl (by omega)) ?_
    refine To.a (To.nil (To.thenN ?_))
    have hlast : ∀ z, p.getLast? = some z → ¬ cmpI x z < 0 := fun z hz => by
      rcases hstop with h0 | h0
      · rw [List.eq_nil_of_length_eq_zero h0] at hz; simp at hz
      · exact h0 z hz
    have hnext : (p ++ x :: (q ++ l.drop (i + 1))) = isort cmpI (l.take (i + 1)) ++ l.drop (i + 1) := by rw [isort_next hx hpq hq hlast]; simp
    refine To.sub [(0, .slice A ((isort cmpI (l.take (i + 1)) ++ l.drop (i + 1)).length) cap), (1, .int .i64 0), (2, .int .i64 ((l.length : Nat) : Int)), (6, .int .i64 (((i + 1) : Nat) : Int))] ⟨(congrArg (fun n : Nat => some (Value.slice A n cap)) (congrArg List.length hnext)), rfl, rfl, rfl, trivial⟩ ?_
    refine To.only [0] rfl ?_
    refine To.as [rows encI 3 1 A cap (isort cmpI (l.take (i + 1)) ++ l.drop (i + 1))] (by rw [hnext] <;> rfl) ?_
    refine To.again (l.length - (i + 1)) (by omega) ⟨i + 1, rfl, rfl, rfl, (by omega)⟩
   have hstop : p.length = 0 ∨ ∀ z, p.getLast? = some z → ¬ cmpI x z < 0 := .inl (by omega)
   refine FlowS.skip (by decide) rfl rfl rfl rfl ?_
   refine FlowS.skip (by decide) rfl rfl rfl rfl ?_
   refine FlowS.skip (by decide) rfl rfl rfl rfl ?_
   refine FlowS.skip (by decide) rfl rfl rfl rfl ?_
   refine FlowS.skip (by decide) rfl rfl rfl rfl ?_
   refine FlowS.skip (by decide) rfl rfl rfl rfl ?_
   refine FlowS.skip (by decide) rfl rfl rfl rfl ?_
   refine FlowS.skip (by decide) rfl rfl rfl rfl ?_
   refine FlowS.skip (by decide) rfl rfl rfl rfl ?_
   refine FlowS.skip (by decide) rfl rfl rfl rfl ?_
   refine FlowS.f rfl (Rd.pickF rfl rfl rfl) ?_
   refine FlowS.fin ?_
   refine To.thenN ?_
   refine To.condF rfl ?_
   refine To.exit (To.thenX (To.thenX (To.blockX (To.blockN (To.thenN (To.reg (To.m ?_)))))))
   refine To.r (Rd.inc rfl rfl rfl (by omega)) ?_
   refine To.a (To.nil (To.thenN ?_))
   have hlast : ∀ z, p.getLast? = some z → ¬ cmpI x z < 0 := fun z hz => by
     rcases hstop with h0 | h0
     · rw [List.eq_nil_of_length_eq_zero h0] at hz; simp at hz
     · exact h0 z hz
   have hnext : (p ++ x :: (q ++ l.drop (i + 1))) = isort cmpI (l.take (i + 1)) ++ l.drop (i + 1) := by rw [isort_next hx hpq hq hlast]; simp
   refine To.sub [(0, .slice A ((isort cmpI (l.take (i + 1)) ++ l.drop (i + 1)).length) cap), (1, .int .i64 0), (2, .int .i64 ((l.length : Nat) : Int)), (6, .int .i64 (((i + 1) : Nat) : Int))] ⟨(congrArg (fun n : Nat => some (Value.slice A n cap)) (congrArg List.length hnext)), rfl, rfl, rfl, trivial⟩ ?_
   refine To.only [0] rfl ?_
   refine To.as [rows encI 3 1 A cap (isort cmpI (l.take (i + 1)) ++ l.drop (i + 1))] (by rw [hnext] <;> rfl) ?_
   refine To.again (l.length - (i + 1)) (by omega) ⟨i + 1, rfl, rfl, rfl, (by omega)⟩
  refine To.exit (To.thenX (To.thenX (To.blockX ?_)))
  refine To.end0 (.inr rfl) Tryz.results52 ?_
  exact ⟨rfl, by rw [show l.take i = l from List.take_of_length_le (by omega), List.drop_eq_nil_of_le (by omega), List.append_nil]⟩
set_option maxHeartbeats 2000000 in
set_option maxRecDepth 100000 in
theorem pdqI_fn (A : Option Addr) (cap : Nat) (l : List Int) (hl : l.length ≤ 12) (k : Int) :
    Does Tryz.prog 32 [.slice A l.length cap, .int .i64 0, .int .i64 ((l.length : Nat) : Int), .int .i64 k] [rows encI 3 1 A cap l] (fun v Γ' => v = .tuple #[] ∧ Γ' = [rows encI 3 1 A cap (isort cmpI l)]) := by
  refine Does.enter Tryz.func32 rfl Tryz.ntmps32 rfl (fun w0 => ?_)
  refine To.seq (To.reg (To.a (To.nil (To.thenN (To.seq (To.reg ?_))))))
  refine To.a (To.nil (To.thenN (To.block ?_)))
  refine To.loopOnce ?_
  refine To.block (To.seq (To.reg (To.m ?_)))
  refine To.m ?_
  refine To.r (Rd.sub64 rfl rfl rfl (by omega)) ?_
  refine To.a (To.nil (To.thenN (To.seq (To.seq (To.reg ?_)))))
  refine To.m ?_
  refine To.r (Rd.leq rfl rfl rfl) ?_
  refine To.nil (To.thenN ?_)
  refine To.condP rfl (fun c23 => ?_) (fun c23 => ?_)
  ·
   refine To.seq (To.reg (To.m ?_))
   refine To.m ?_
   refine To.m ?_
   refine To.call [0] rfl rfl rfl (Ent.fn rfl rfl ca52) rfl (insI_fn A cap l hl) ?_
   rintro _ _ ⟨rfl, rfl⟩
   refine To.nil (To.thenN (To.ret (To.thenR (To.blockR (To.thenR (To.blockR ?_))))))
   refine To.end0 (.inl rfl) Tryz.results32 ?_
   exact ⟨rfl, rfl⟩
  exfalso; omega
set_option maxHeartbeats 2000000 in
set_option maxRecDepth 100000 in
theorem sortI_fn (A : Option Addr) (cap : Nat) (l : List Int) (hl : l.length ≤ 12) :
    Does Tryz.prog 17 [.slice A l.length cap] [rows encI 3 1 A cap l] (fun v Γ' => v = .tuple #[] ∧ Γ' = [rows encI 3 1 A cap (isort cmpI l)]) := by
  refine Does.enter Tryz.func17 rfl Tryz.ntmps17 rfl (fun w0 => ?_)
  refine To.seq (To.reg (To.m ?_))
  refine To.r (Rd.len rfl rfl Tryz.underlying48) ?_
  refine To.a (To.nil (To.thenN (To.reg ?_)))
  refine To.m ?_
  refine To.m ?_
  refine To.m ?_
  refine To.r (Rd.conv rfl rfl Tryz.underlying3 Tryz.underlying117 (wrapU (by first | omega | (simp only [List.length_append, List.length_cons, List.length_nil]; omega)))) ?_
  refine To.callQ rfl rfl rfl (Ent.fn rfl rfl ca33) (blen_fn l.length (by omega)) rfl (oks_nil _) ?_
  rintro _ _ ⟨k1, rfl, rfl⟩
  refine ⟨rfl, ?_⟩
  refine To.call [0] rfl rfl rfl (Ent.fn rfl rfl ca32) rfl (pdqI_fn A cap l hl k1) ?_
  rintro _ _ ⟨rfl, rfl⟩
  refine To.nil ?_
  refine To.end0 (.inr rfl) Tryz.results17 ?_
  exact ⟨rfl, rfl⟩
abbrev AscI (l : List Int) : Prop := l.Pairwise (fun a b => a ≤ b)
theorem isortI_asc (l : List Int) : AscI (isort cmpI l) := (isort_sorted cmp_cmpI l).imp fun {a b} h => by
  unfold cmpI at h
  split at h
  · omega
  · split at h <;> omega
theorem isortI_mem {l : List Int} {x : Int} : x ∈ isort cmpI l ↔ x ∈ l := (isort_perm l).mem_iff
def lowI : List Int → Int → Nat
  | [], _ => 0
  | e :: r, k => if e < k then lowI r k + 1 else 0
theorem lowI_le (k : Int) : ∀ l : List Int, lowI l k ≤ l.length
  | [] => Nat.le_refl _
  | e :: r => by rw [lowI]; split <;> simp [lowI_le k r]
theorem lowI_iff {k : Int} : ∀ {l : List Int} {h : Nat} {x : Int}, AscI l → l[h]? = some x → (x < k ↔ h < lowI l k)
  | [], h, x, _, hx => by simp at hx
  | e :: r, h, x, ha, hx => by
    obtain ⟨h1, h2⟩ := List.pairwise_cons.1 ha
    rw [lowI]
    cases h with
    | zero =>
      obtain rfl : e = x := by simpa using hx
      by_cases c : e < k
      · simp [c]
      · simp [c]
    | succ h =>
      have hx' : r[h]? = some x := by simpa using hx
      by_cases c : e < k
      · rw [if_pos c, lowI_iff h2 hx']; omega
      · rw [if_neg c]
        have := h1 x (List.mem_of_getElem? hx')
        omega
theorem lowI_mem {k : Int} : ∀ {l : List Int}, AscI l → (k ∈ l ↔ l[lowI l k]? = some k)
  | [], _ => by simp
  | e :: r, ha => by
    obtain ⟨h1, h2⟩ := List.pairwise_cons.1 ha
    rw [lowI]
    by_cases c : e < k
    · rw [if_pos c, List.getElem?_cons_succ, ← lowI_mem h2, List.mem_cons]
      exact ⟨fun h => h.elim (fun h => by omega) id, .inr⟩
    · rw [if_neg c, List.getElem?_cons_zero, List.mem_cons]
      constructor
      · rintro (h | h)
        · rw [h]
        · have := h1 k h; rw [show e = k by omega]
      · intro h; exact .inl (Option.some.inj h).symm
set_option maxHeartbeats 2000000 in
set_option maxRecDepth 100000 in
theorem bs_fn (A : Option Addr) (ca : Nat) (l : List Int) (k : Int) (hl : l.length ≤ 1000000) (ha : AscI l) :
    Does Tryz.prog 85 [.slice A l.length ca, .int .i64 k] [ros encI A l] (fun v _ => v = .tuple #[.int .i64 ((lowI l k : Nat) : Int), .bool (decide (k ∈ l))]) := by
  refine Does.enter Tryz.func85 rfl Tryz.ntmps85 rfl (fun w0 => ?_)
  refine To.seq (To.reg (To.a ?_))
  refine To.a (To.nil (To.thenN (To.seq (To.reg ?_))))
  refine To.m ?_
  refine To.r (Rd.len rfl rfl Tryz.underlying48) ?_
  refine To.a (To.nil (To.thenN (To.seq (To.reg ?_))))
  refine To.m ?_
  refine To.a ?_
  refine To.a (To.nil (To.thenN (To.seq (To.block ?_))))
  refine To.sub [(0, .slice A l.length ca), (1, .int .i64 k), (6, .int .i64 ((l.length : Nat) : Int)), (7, .int .i64 ((0 : Nat) : Int)), (8, .int .i64 ((l.length : Nat) : Int))] ⟨rfl, rfl, rfl, rfl, rfl, trivial⟩ ?_
  refine To.only [0] rfl ?_
  refine To.loop (fun mz ρ Γ => ∃ (i : Nat) (j : Nat), ρ = [(0, .slice A l.length ca), (1, .int .i64 k), (6, .int .i64 ((l.length : Nat) : Int)), (7, .int .i64 ((i : Nat) : Int)), (8, .int .i64 ((j : Nat) : Int))] ∧ Γ = [ros encI A l] ∧ mz = j - i ∧ (i ≤ lowI l k ∧ lowI l k ≤ j ∧ j ≤ l.length)) (l.length - 0) ⟨0, l.length, rfl, rfl, rfl, ⟨Nat.zero_le _, lowI_le _ _, Nat.le_refl _⟩⟩ ?_
  rintro mz _ _ ⟨i, j, rfl, rfl, rfl, hij⟩
  refine To.seq (To.seq (To.reg (To.m ?_)))
  refine To.m ?_
  refine To.r (Rd.lss rfl rfl rfl) ?_
  refine To.nil (To.thenN ?_)
  refine To.condP rfl (fun c15 => ?_) (fun c15 => ?_)
  ·
   refine To.skip (To.thenN (To.block (To.seq (To.reg (To.m ?_)))))
   refine To.m ?_
   refine To.r (Rd.addN (a := i) (b := j) rfl rfl rfl (by omega)) ?_
   refine To.r (Rd.conv rfl rfl Tryz.underlying3 Tryz.underlying117 (wrapU (by first | omega | (simp only [List.length_append, List.length_cons, List.length_nil]; omega)))) ?_
   refine To.r (Rd.shrK (a := (i + j)) (j := 1) rfl rfl rfl (by simp only [IntKind.bits]; omega)) ?_
   refine To.r (Rd.conv rfl rfl Tryz.underlying117 Tryz.underlying3 (IntWalk.i64_in _ (by omega))) ?_
   refine To.a (To.nil (To.thenN (To.seq ?_)))
   have hm1 : i ≤ (i + j) / 2 ^ 1 ∧ (i + j) / 2 ^ 1 < j := by omega
   obtain ⟨x, hx⟩ : ∃ z0, l[((i + j) / 2 ^ 1)]? = some z0 := ⟨l[((i + j) / 2 ^ 1)]'(by omega), List.getElem?_eq_getElem _⟩
   have hcm : x < k ↔ (i + j) / 2 ^ 1 < lowI l k := lowI_iff ha hx
   refine To.reg (To.m ?_)
   refine To.m ?_
   refine To.r (Rd.indexRos encI_ok (i := 0) (j := ((i + j) / 2 ^ 1)) rfl rfl rfl s48 rfl hx) ?_
   refine To.r (Rd.load (i := 0) rfl rfl c3 rfl (gives_1 (ros_gives encI_ok hx) rfl)) ?_
   refine To.m ?_
   refine To.callV rfl rfl rfl (Ent.fn rfl rfl ca58) (lessI_fn x k) rfl (oks_nil _) ?_
   refine To.nil (To.thenN ?_)
   refine To.condP rfl (fun c27 => ?_) (fun c27 => ?_)
   ·
    refine To.reg (To.m ?_)
    refine To.r (Rd.inc rfl rfl rfl (by omega)) ?_
    refine To.a (To.nil (To.blockN (To.thenN ?_)))
    refine To.sub [(0, .slice A l.length ca), (1, .int .i64 k), (6, .int .i64 ((l.length : Nat) : Int)), (7, .int .i64 (((((i + j) / 2 ^ 1) + 1) : Nat) : Int)), (8, .int .i64 ((j : Nat) : Int))] ⟨rfl, rfl, rfl, rfl, rfl, trivial⟩ ?_
    refine To.only [0] rfl ?_
    refine To.again (j - (((i + j) / 2 ^ 1) + 1)) (by omega) ⟨((i + j) / 2 ^ 1) + 1, j, rfl, rfl, rfl, (by omega)⟩
   refine To.reg (To.m ?_)
   refine To.a (To.nil (To.blockN (To.thenN ?_)))
   refine To.sub [(0, .slice A l.length ca), (1, .int .i64 k), (6, .int .i64 ((l.length : Nat) : Int)), (7, .int .i64 ((i : Nat) : Int)), (8, .int .i64 ((((i + j) / 2 ^ 1) : Nat) : Int))] ⟨rfl, rfl, rfl, rfl, rfl, trivial⟩ ?_
   refine To.only [0] rfl ?_
   refine To.again (((i + j) / 2 ^ 1) - i) (by omega) ⟨i, ((i + j) / 2 ^ 1), rfl, rfl, rfl, (by omega)⟩
  refine To.exit (To.thenX (To.thenX (To.blockX (To.thenN (To.seq ?_)))))
  obtain rfl : i = lowI l k := by omega
  refine To.sub [(0, .slice A l.length ca), (1, .int .i64 k), (6, .int .i64 ((l.length : Nat) : Int)), (7, .int .i64 (((lowI l k) : Nat) : Int))] ⟨rfl, rfl, rfl, rfl, trivial⟩ ?_
  refine To.reg (To.m ?_)
  refine To.m ?_
  refine To.m ?_
  refine To.r (Rd.lss rfl rfl rfl) ?_
  refine To.rdP rfl rfl rfl (Rd.move rfl rfl) (fun g35 => ?_) (fun g35 => ?_)
  ·
   obtain ⟨x, hx⟩ : ∃ z0, l[(lowI l k)]? = some z0 := ⟨l[(lowI l k)]'(by omega), List.getElem?_eq_getElem _⟩
   refine To.m ?_
   refine To.m ?_
   refine To.r (Rd.indexRos encI_ok (i := 0) (j := (lowI l k)) rfl rfl rfl s48 rfl hx) ?_
   refine To.r (Rd.load (i := 0) rfl rfl c3 rfl (gives_1 (ros_gives encI_ok hx) rfl)) ?_
   refine To.m ?_
   refine To.r (Rd.eql rfl rfl rfl) ?_
   refine To.rdP rfl rfl rfl (Rd.move rfl rfl) (fun g42 => ?_) (fun g42 => ?_)
   ·
    refine To.k ?_
    refine To.k ?_
    refine To.k ?_
    refine To.k ?_
    refine To.k ?_
    refine To.k ?_
    refine To.k ?_
    refine To.k ?_
    refine To.k ?_
    refine To.r (Rd.pickT rfl rfl rfl) ?_
    refine To.r (Rd.pickT rfl rfl rfl) ?_
    refine To.a ?_
    refine To.a (To.nil (To.thenN (To.ret ?_)))
    refine To.end2 (.inl rfl) Tryz.results85 rfl rfl ?_
    show Value.tuple #[_, _] = Value.tuple #[_, _]
    have hmm : k ∈ l ↔ x = k := by rw [lowI_mem ha, hx]; exact ⟨Option.some.inj, fun h => by rw [h]⟩
    by_cases hk : x = k
    · rw [show decide (k ∈ l) = true from decide_eq_true (hmm.2 hk)]; first | done | simp_all
    · rw [show decide (k ∈ l) = false from decide_eq_false fun h => hk (hmm.1 h)]; first | done | simp_all
   refine To.m ?_
   refine To.m ?_
   refine To.r (Rd.indexRos encI_ok (i := 0) (j := (lowI l k)) rfl rfl rfl s48 rfl hx) ?_
   refine To.r (Rd.load (i := 0) rfl rfl c3 rfl (gives_1 (ros_gives encI_ok hx) rfl)) ?_
   refine To.callV rfl rfl rfl (Ent.fn rfl rfl ca95) (nanS_fn x) rfl (oks_nil _) ?_
   refine To.m ?_
   refine To.k ?_
   refine To.k ?_
   refine To.r (Rd.pickF rfl rfl rfl) ?_
   refine To.r (Rd.pickF rfl rfl rfl) ?_
   refine To.r (Rd.pickT rfl rfl rfl) ?_
   refine To.a ?_
   refine To.a (To.nil (To.thenN (To.ret ?_)))
   refine To.end2 (.inl rfl) Tryz.results85 rfl rfl ?_
   show Value.tuple #[_, _] = Value.tuple #[_, _]
   have hmm : k ∈ l ↔ x = k := by rw [lowI_mem ha, hx]; exact ⟨Option.some.inj, fun h => by rw [h]⟩
   by_cases hk : x = k
   · rw [show decide (k ∈ l) = true from decide_eq_true (hmm.2 hk)]; first | done | simp_all
   · rw [show decide (k ∈ l) = false from decide_eq_false fun h => hk (hmm.1 h)]; first | done | simp_all
  refine To.k ?_
  refine To.k ?_
  refine To.k ?_
  refine To.k ?_
  refine To.k ?_
  refine To.k ?_
  refine To.k ?_
  refine To.k ?_
  refine To.k ?_
  refine To.k ?_
  refine To.k ?_
  refine To.k ?_
  refine To.k ?_
  refine To.k ?_
  refine To.k ?_
  refine To.k ?_
  refine To.k ?_
  refine To.r (Rd.pickF rfl rfl rfl) ?_
  refine To.a ?_
  refine To.a (To.nil (To.thenN (To.ret ?_)))
  refine To.end2 (.inl rfl) Tryz.results85 rfl rfl ?_
  show Value.tuple #[_, _] = Value.tuple #[_, _]
  rw [show decide (k ∈ l) = false from decide_eq_false fun h => by rw [lowI_mem ha, List.getElem?_eq_none (by omega)] at h; cases h]
end Go.Proofs.YtoehnbacbobhiaaGreatDoor

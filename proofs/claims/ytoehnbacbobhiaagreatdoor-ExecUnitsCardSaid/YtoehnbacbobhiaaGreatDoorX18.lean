/- A table out of a list. Own text (walks printed by sx.py). -/
import Derived.Test.YtoehnbacbobhiaaGreatDoorL1
import Derived.Test.YtoehnbacbobhiaaGreatDoorX17
import Derived.Test.YtoehnbacbobhiaaGreatDoorL3
set_option linter.unusedVariables false
set_option linter.unusedSimpArgs false
namespace Go.Proofs.YtoehnbacbobhiaaGreatDoor
open Go.RowKit Go.Flow Go.Mem Go.Sep
set_option maxHeartbeats 2000000 in
set_option maxRecDepth 100000 in
theorem nan51 (a : Int) :
    Does Tryz.prog 51 [.int .i64 a] [] (fun v _ => v = .bool false) := by
  refine Does.enter Tryz.func51 rfl Tryz.ntmps51 rfl (fun w0 => ?_)
  refine To.seq (To.reg (To.a (To.nil (To.thenN (To.seq (To.reg ?_))))))
  refine To.m ?_
  refine To.m ?_
  refine To.r (Rd.neq rfl rfl rfl) ?_
  refine To.a (To.nil (To.thenN (To.ret ?_)))
  refine To.end1 (.inl rfl) Tryz.results51 rfl ?_
  simp
set_option maxHeartbeats 2000000 in
set_option maxRecDepth 100000 in
theorem cmp30 (a b : Int) :
    Does Tryz.prog 30 [.int .i64 a, .int .i64 b] [] (fun v _ => v = .int .i64 (cmpI a b)) := by
  refine Does.enter Tryz.func30 rfl Tryz.ntmps30 rfl (fun w0 => ?_)
  refine To.seq (To.reg (To.a (To.nil (To.thenN (To.seq (To.reg ?_))))))
  refine To.m ?_
  refine To.callV rfl rfl rfl (Ent.fn rfl rfl ca51) (nan51 a) rfl (oks_nil _) ?_
  refine To.a (To.nil (To.thenN (To.seq (To.reg ?_))))
  refine To.m ?_
  refine To.callV rfl rfl rfl (Ent.fn rfl rfl ca51) (nan51 b) rfl (oks_nil _) ?_
  refine To.a (To.nil (To.thenN (To.seq (To.seq (To.reg ?_)))))
  refine To.m (To.nil (To.thenN ?_))
  refine To.condF rfl ?_
  refine To.skip (To.thenN (To.seq (To.seq (To.reg (To.m (To.nil (To.thenN ?_)))))))
  refine To.condF rfl ?_
  refine To.skip (To.thenN (To.seq (To.seq (To.reg (To.m ?_)))))
  refine To.m ?_
  refine To.r (Rd.lss rfl rfl rfl) ?_
  refine To.nil (To.thenN ?_)
  refine To.condP rfl (fun c16 => ?_) (fun c16 => ?_)
  ·
   refine To.seq (To.reg (To.a (To.nil (To.thenN (To.ret (To.thenR ?_))))))
   refine To.end1 (.inl rfl) Tryz.results30 rfl ?_
   unfold cmpI; rw [if_pos c16]
  refine To.skip (To.thenN (To.seq (To.seq (To.reg (To.m ?_)))))
  refine To.m ?_
  refine To.r (Rd.gtr rfl rfl rfl) ?_
  refine To.nil (To.thenN ?_)
  refine To.condP rfl (fun c19 => ?_) (fun c19 => ?_)
  ·
   refine To.seq (To.reg (To.a (To.nil (To.thenN (To.ret (To.thenR ?_))))))
   refine To.end1 (.inl rfl) Tryz.results30 rfl ?_
   unfold cmpI; rw [if_neg c16, if_pos c19]
  refine To.skip (To.thenN (To.seq (To.reg (To.a (To.nil (To.thenN (To.ret ?_)))))))
  refine To.end1 (.inl rfl) Tryz.results30 rfl ?_
  unfold cmpI; rw [if_neg c16, if_neg c19]
set_option maxHeartbeats 2000000 in
set_option maxRecDepth 100000 in
theorem of1_fn (x y : Int × Int) :
    Does Tryz.prog 29 [.agg (encEn x).toArray, .agg (encEn y).toArray] [] (fun v _ => v = .int .i64 (cmpE x y)) := by
  refine Does.enter Tryz.func29 rfl Tryz.ntmps29 rfl (fun w0 => ?_)
  refine To.seq (To.reg ?_)
  refine To.boxed rfl rfl rfl rfl rfl rfl (fun b2 => ?_)
  refine To.boxed rfl rfl rfl rfl rfl rfl (fun b3 => ?_)
  refine To.a (To.nil (To.thenN (To.seq (To.reg ?_))))
  refine To.f fl110_0 ?_
  refine To.lo 1 c2 ?_
  refine To.f fl110_0 ?_
  refine To.lo 0 c2 ?_
  refine To.callV rfl rfl rfl (Ent.fn rfl rfl ca30) (cmp30 x.1 y.1) rfl (oks_nil _) ?_
  refine To.a (To.nil (To.thenN (To.ret ?_)))
  refine To.end1 (.inl rfl) Tryz.results29 rfl ?_
  rfl
set_option maxHeartbeats 2000000 in
set_option maxRecDepth 100000 in
theorem insE_fn (A : Option Addr) (cap : Nat) (l : List (Int × Int)) (hl : l.length ≤ 16) :
    Does Tryz.prog 76 [.slice A l.length cap, .int .i64 0, .int .i64 ((l.length : Nat) : Int), .func (.func 29) #[] #[]] [rows encEn 110 2 A cap l] (fun v Γ' => v = .tuple #[] ∧ Γ' = [rows encEn 110 2 A cap (isort cmpE l)]) := by
  refine Does.enter Tryz.func76 rfl Tryz.ntmps76 rfl (fun w0 => ?_)
  refine To.seq (To.reg (To.m ?_))
  refine To.r (Rd.add64 rfl rfl rfl (by omega)) ?_
  refine To.a (To.nil (To.thenN (To.block ?_)))
  refine To.sub [(0, .slice A ((isort cmpE (l.take 1) ++ l.drop 1).length) cap), (1, .int .i64 0), (2, .int .i64 ((l.length : Nat) : Int)), (3, .func (.func 29) #[] #[]), (8, .int .i64 ((1 : Nat) : Int))] ⟨(congrArg (fun n : Nat => some (Value.slice A n cap)) (congrArg List.length (isort_one l).symm)), rfl, rfl, rfl, rfl, trivial⟩ ?_
  refine To.only [0] rfl ?_
  refine To.as [rows encEn 110 2 A cap (isort cmpE (l.take 1) ++ l.drop 1)] (by rw [isort_one] <;> rfl) ?_
  refine To.loop (fun mz ρ Γ => ∃ (i : Nat), ρ = [(0, .slice A ((isort cmpE (l.take i) ++ l.drop i).length) cap), (1, .int .i64 0), (2, .int .i64 ((l.length : Nat) : Int)), (3, .func (.func 29) #[] #[]), (8, .int .i64 ((i : Nat) : Int))] ∧ Γ = [rows encEn 110 2 A cap (isort cmpE (l.take i) ++ l.drop i)] ∧ mz = l.length - i ∧ (1 ≤ i ∧ (i ≤ l.length ∨ l.length = 0))) (l.length - 1) ⟨1, rfl, rfl, rfl, (by omega)⟩ ?_
  rintro mz _ _ ⟨i, rfl, rfl, rfl, hi⟩
  refine To.seq (To.seq (To.reg (To.m ?_)))
  refine To.m ?_
  refine To.r (Rd.lss rfl rfl rfl) ?_
  refine To.nil (To.thenN ?_)
  refine To.condP rfl (fun c14 => ?_) (fun c14 => ?_)
  ·
   refine To.skip (To.thenN (To.seq (To.block (To.seq (To.reg (To.m ?_))))))
   refine To.a (To.nil (To.thenN (To.block ?_)))
   obtain ⟨x, hx⟩ : ∃ z0, l[i]? = some z0 := ⟨l[i]'(by omega), List.getElem?_eq_getElem _⟩
   have hlen : (isort cmpE (l.take i)).length = i := by rw [isort_len, List.length_take]; omega
   have hd0 := drop_of_get hx
   refine To.sub [(0, .slice A (((isort cmpE (l.take i)) ++ x :: ([] ++ l.drop (i + 1))).length) cap), (1, .int .i64 0), (2, .int .i64 ((l.length : Nat) : Int)), (3, .func (.func 29) #[] #[]), (8, .int .i64 ((i : Nat) : Int)), (9, .int .i64 (((isort cmpE (l.take i)).length : Nat) : Int))] ⟨(congrArg (fun n : Nat => some (Value.slice A n cap)) (congrArg (fun d => (isort cmpE (l.take i) ++ d).length) hd0)), rfl, rfl, rfl, rfl, (congrArg (fun n : Nat => some (Value.int .i64 (n : Int))) hlen.symm), trivial⟩ ?_
   refine To.only [0] rfl ?_
   refine To.as [rows encEn 110 2 A cap ((isort cmpE (l.take i)) ++ x :: ([] ++ l.drop (i + 1)))] (by rw [hd0]; rfl) ?_
   refine To.loop (fun mz ρ Γ => ∃ (p : List (Int × Int)) (q : List (Int × Int)), ρ = [(0, .slice A ((p ++ x :: (q ++ l.drop (i + 1))).length) cap), (1, .int .i64 0), (2, .int .i64 ((l.length : Nat) : Int)), (3, .func (.func 29) #[] #[]), (8, .int .i64 ((i : Nat) : Int)), (9, .int .i64 ((p.length : Nat) : Int))] ∧ Γ = [rows encEn 110 2 A cap (p ++ x :: (q ++ l.drop (i + 1)))] ∧ mz = p.length ∧ (isort cmpE (l.take i) = p ++ q) ∧ (∀ z ∈ q, cmpE x z < 0)) ((isort cmpE (l.take i)).length) ⟨(isort cmpE (l.take i)), [], rfl, rfl, rfl, ((List.append_nil _).symm), (fun z hz => absurd hz List.not_mem_nil)⟩ ?_
   rintro mz _ _ ⟨p, q, rfl, rfl, rfl, hpq, hq⟩
   have hln : (p ++ x :: (q ++ l.drop (i + 1))).length = l.length := by
     have h1 := congrArg List.length hpq
     rw [isort_len, List.length_take, List.length_append] at h1
     simp only [List.length_append, List.length_cons, List.length_drop]; omega
   have hpi : p.length < l.length := by rw [← hln]; simp only [List.length_append, List.length_cons]; omega
   refine To.seq (To.seq ?_)
   have hgx : (p ++ x :: (q ++ l.drop (i + 1)))[p.length]? = some x := get_mid _ _ _
   refine To.flow [] [⟨0, [], 0⟩, ⟨1, [], 0⟩, ⟨2, [], 0⟩, ⟨3, [], 0⟩, ⟨4, [], 0⟩, ⟨5, [], 0⟩, ⟨6, [], 0⟩, ⟨9, [], 0⟩, ⟨10, [], 0⟩, ⟨11, [], 0⟩, ⟨7, [], 1⟩, ⟨8, [], 1⟩, ⟨12, [], 1⟩, ⟨13, [], 1⟩, ⟨14, [], 3⟩, ⟨15, [], 0⟩, ⟨16, [], 0⟩] mixed (by kernel_rfl) (oks_nil _) ?_
   refine FlowS.mo ?_
   refine FlowS.mo ?_
   refine FlowS.f rfl (Rd.gtr rfl rfl rfl) ?_
   refine FlowS.rdP rfl rfl rfl rfl (Rd.move rfl rfl) (fun g21 => ?_) (fun g21 => ?_)
   ·
    have hpp : 0 < p.length := by omega
    obtain ⟨p', y, hp⟩ := snoc_of_pos hpp
    have hgy : (p ++ x :: (q ++ l.drop (i + 1)))[p.length - 1]? = some y := by rw [hp]; simp
    refine FlowS.mo ?_
    refine FlowS.mo ?_
    refine FlowS.mo ?_
    refine FlowS.mo ?_
    refine FlowS.mo ?_
    refine FlowS.f rfl (Rd.as (v' := .int .i64 ((p.length - 1 : Nat) : Int)) (congrArg (Value.int .i64) (by omega)) (Rd.sub64 rfl rfl rfl (by omega))) ?_
    refine FlowS.r rfl (Rd.indexRows (i := 0) (j := p.length) rfl rfl rfl s38 rfl hgx) ?_
    refine FlowS.r rfl (Rd.loadS (i := 0) rfl rfl r110 rfl (rows_gives encEn_ok hgx) (encEn_ok.len _)) ?_
    refine FlowS.r rfl (Rd.indexRows (i := 0) (j := (p.length - 1)) rfl rfl rfl s38 rfl hgy) ?_
    refine FlowS.r rfl (Rd.loadS (i := 0) rfl rfl r110 rfl (rows_gives encEn_ok hgy) (encEn_ok.len _)) ?_
    refine FlowS.callQ rfl rfl rfl rfl (Ent.func (first := []) (captured := []) rfl rfl rfl ca29) (of1_fn x y) rfl (oks_nil _) ?_
    refine FlowS.f rfl (Rd.lss rfl rfl rfl) ?_
    refine FlowS.f rfl (Rd.pickT rfl rfl rfl) ?_
    refine FlowS.fin ?_
    refine To.thenN ?_
    refine To.condP rfl (fun c34 => ?_) (fun c34 => ?_)
    ·
     have hxy := c34
     refine To.skip (To.thenN (To.seq (To.block ?_)))
     have hl2 : ((p ++ x :: (q ++ l.drop (i + 1))).set p.length y).length = l.length := by rw [List.length_set]; exact hln
     refine To.know (p := A = some ⟨blk A, ofs A, none⟩) (fun w hw => rows_some encEn_ok (by decide) (l := (p ++ x :: (q ++ l.drop (i + 1)))) (by rw [hln]; omega) 0 rfl hw) (fun hA => ?_)
     refine To.flow [] [⟨0, [], 0⟩, ⟨1, [], 0⟩, ⟨2, [], 0⟩, ⟨3, [], 0⟩, ⟨4, [], 0⟩, ⟨5, [], 0⟩, ⟨6, [], 0⟩, ⟨7, [], 0⟩, ⟨8, [], 0⟩, ⟨10, [], 0⟩, ⟨11, [], 0⟩, ⟨12, [], 0⟩, ⟨9, [], 1⟩, ⟨13, [], 1⟩, ⟨14, [], 0⟩, ⟨15, [], 5⟩, ⟨16, [], 0⟩, ⟨17, [], 5⟩] mixed (by kernel_rfl) (oks_nil _) ?_
     refine FlowS.mo ?_
     refine FlowS.mo ?_
     refine FlowS.mo ?_
     refine FlowS.mo ?_
     refine FlowS.f rfl (Rd.as (v' := .int .i64 ((p.length - 1 : Nat) : Int)) (congrArg (Value.int .i64) (by omega)) (Rd.sub64 rfl rfl rfl (by omega))) ?_
     refine FlowS.mo ?_
     refine FlowS.mo ?_
     refine FlowS.f rfl (Rd.as (v' := .int .i64 ((p.length - 1 : Nat) : Int)) (congrArg (Value.int .i64) (by omega)) (Rd.sub64 rfl rfl rfl (by omega))) ?_
     refine FlowS.f rfl (Rd.indexS (j := (p.length - 1)) hA rfl rfl rfl s38 (by rw [hln]; omega)) ?_
     refine FlowS.mo ?_
     refine FlowS.mo ?_
     refine FlowS.f rfl (Rd.indexS (j := p.length) hA rfl rfl rfl s38 (by rw [hln]; omega)) ?_
     refine FlowS.r rfl (Rd.loadS (i := 0) rfl rfl r110 rfl (rows_gives encEn_ok hgy) (encEn_ok.len _)) ?_
     refine FlowS.r rfl (Rd.loadS (i := 0) rfl rfl r110 rfl (rows_gives encEn_ok hgx) (encEn_ok.len _)) ?_
     refine FlowS.f rfl (Rd.indexS (j := p.length) hA rfl rfl rfl s38 (by rw [hln]; omega)) ?_
     refine FlowS.up rfl rfl rfl (Up.storeS (i := 0) (us := encEn y) rfl rfl rfl r110 (encEn_ok.len _) rfl rfl (rows_takes encEn_ok (by decide) (by omega))) (oks_nil _) ?_
     refine FlowS.f rfl (Rd.indexS (j := (p.length - 1)) hA rfl rfl rfl s38 (by rw [hln]; omega)) ?_
     refine FlowS.up rfl rfl rfl (Up.storeS (i := 0) (us := encEn x) rfl rfl rfl r110 (encEn_ok.len _) rfl rfl (rows_takes encEn_ok (by decide) (by omega))) (oks_nil _) ?_
     refine FlowS.fin ?_
     refine To.blockN (To.thenN (To.reg (To.m ?_)))
     refine To.r (Rd.as (v' := .int .i64 ((p.length - 1 : Nat) : Int)) (congrArg (Value.int .i64) (by omega)) (Rd.sub64 rfl rfl rfl (by omega))) ?_
     refine To.a (To.nil (To.thenN ?_))
     have hsw := swap_set p' (q ++ l.drop (i + 1)) x y
     have hpl : p.length - 1 = p'.length := by rw [hp]; simp
     refine To.sub [(0, .slice A ((p' ++ x :: ((y :: q) ++ l.drop (i + 1))).length) cap), (1, .int .i64 0), (2, .int .i64 ((l.length : Nat) : Int)), (3, .func (.func 29) #[] #[]), (8, .int .i64 ((i : Nat) : Int)), (9, .int .i64 ((p'.length : Nat) : Int))] ⟨(congrArg (fun n : Nat => some (Value.slice A n cap)) (by rw [hp]; simp)), rfl, rfl, rfl, rfl, (congrArg (fun n : Nat => some (Value.int .i64 (n : Int))) hpl), trivial⟩ ?_
     refine To.only [0] rfl ?_
     refine To.as [rows encEn 110 2 A cap (p' ++ x :: ((y :: q) ++ l.drop (i + 1)))] (by rw [hpl, hp]; rw [hsw]; rfl) ?_
     refine To.again (p'.length) (by rw [hp]; simp) ⟨p', (y :: q), rfl, rfl, rfl, (by rw [hpq, hp]; simp), (fun z hz => by
       rcases List.mem_cons.1 hz with rfl | hz
       · exact hxy
       · exact hq z hz)⟩
    have hstop : p.length = 0 ∨ ∀ z, p.getLast? = some z → ¬ cmpE x z < 0 := .inr (fun z hz => by rw [hp] at hz; simp at hz; subst hz; exact c34)
    refine To.exit (To.thenX (To.thenX (To.blockX (To.blockN (To.thenN (To.reg (To.m ?_)))))))
    refine To.r (Rd.inc rfl rfl rfl (by omega)) ?_
    refine To.a (To.nil (To.thenN ?_))
    have hlast : ∀ z, p.getLast? = some z → ¬ cmpE x z < 0 := fun z hz => by
      rcases hstop with h0 | h0
      · rw [List.eq_nil_of_length_eq_zero h0] at hz; simp at hz
      · exact h0 z hz
    have hnext : (p ++ x :: (q ++ l.drop (i + 1))) = isort cmpE (l.take (i + 1)) ++ l.drop (i + 1) := by rw [isort_next hx hpq hq hlast]; simp
    refine To.sub [(0, .slice A ((isort cmpE (l.take (i + 1)) ++ l.drop (i + 1)).length) cap), (1, .int .i64 0), (2, .int .i64 ((l.length : Nat) : Int)), (3, .func (.func 29) #[] #[]), (8, .int .i64 (((i + 1) : Nat) : Int))] ⟨(congrArg (fun n : Nat => some (Value.slice A n cap)) (congrArg List.length hnext)), rfl, rfl, rfl, rfl, trivial⟩ ?_
    refine To.only [0] rfl ?_
    refine To.as [rows encEn 110 2 A cap (isort cmpE (l.take (i + 1)) ++ l.drop (i + 1))] (by rw [hnext] <;> rfl) ?_
    refine To.again (l.length - (i + 1)) (by omega) ⟨i + 1, rfl, rfl, rfl, (by omega)⟩
   have hstop : p.length = 0 ∨ ∀ z, p.getLast? = some z → ¬ cmpE x z < 0 := .inl (by omega)
   refine FlowS.skip (by decide) rfl rfl rfl rfl ?_
   refine FlowS.skip (by decide) rfl rfl rfl rfl ?_
   refine FlowS.skip (by decide) rfl rfl rfl rfl ?_
   refine FlowS.skip (by decide) rfl rfl rfl rfl ?_
   refine FlowS.skip (by decide) rfl rfl rfl rfl ?_
   refine FlowS.skip (by decide) rfl rfl rfl rfl ?_
   refine FlowS.skip (by decide) rfl rfl rfl rfl ?_
   refine FlowS.skip (by decide) rfl rfl rfl rfl ?_
   refine FlowS.skip (by decide) rfl rfl rfl rfl ?_
   refine FlowS.skip (by decide) rfl rfl rfl rfl ?_
   refine FlowS.skip (by decide) rfl rfl rfl rfl ?_
   refine FlowS.skip (by decide) rfl rfl rfl rfl ?_
   refine FlowS.f rfl (Rd.pickF rfl rfl rfl) ?_
   refine FlowS.fin ?_
   refine To.thenN ?_
   refine To.condF rfl ?_
   refine To.exit (To.thenX (To.thenX (To.blockX (To.blockN (To.thenN (To.reg (To.m ?_)))))))
   refine To.r (Rd.inc rfl rfl rfl (by omega)) ?_
   refine To.a (To.nil (To.thenN ?_))
   have hlast : ∀ z, p.getLast? = some z → ¬ cmpE x z < 0 := fun z hz => by
     rcases hstop with h0 | h0
     · rw [List.eq_nil_of_length_eq_zero h0] at hz; simp at hz
     · exact h0 z hz
   have hnext : (p ++ x :: (q ++ l.drop (i + 1))) = isort cmpE (l.take (i + 1)) ++ l.drop (i + 1) := by rw [isort_next hx hpq hq hlast]; simp
   refine To.sub [(0, .slice A ((isort cmpE (l.take (i + 1)) ++ l.drop (i + 1)).length) cap), (1, .int .i64 0), (2, .int .i64 ((l.length : Nat) : Int)), (3, .func (.func 29) #[] #[]), (8, .int .i64 (((i + 1) : Nat) : Int))] ⟨(congrArg (fun n : Nat => some (Value.slice A n cap)) (congrArg List.length hnext)), rfl, rfl, rfl, rfl, trivial⟩ ?_
   refine To.only [0] rfl ?_
   refine To.as [rows encEn 110 2 A cap (isort cmpE (l.take (i + 1)) ++ l.drop (i + 1))] (by rw [hnext] <;> rfl) ?_
   refine To.again (l.length - (i + 1)) (by omega) ⟨i + 1, rfl, rfl, rfl, (by omega)⟩
  refine To.exit (To.thenX (To.thenX (To.blockX ?_)))
  refine To.end0 (.inr rfl) Tryz.results76 ?_
  exact ⟨rfl, by rw [show l.take i = l from List.take_of_length_le (by omega), List.drop_eq_nil_of_le (by omega), List.append_nil]⟩
set_option maxHeartbeats 2000000 in
set_option maxRecDepth 100000 in
theorem stab_fn (A : Option Addr) (cap : Nat) (l : List (Int × Int)) (hl : l.length ≤ 16) :
    Does Tryz.prog 50 [.slice A l.length cap, .int .i64 ((l.length : Nat) : Int), .func (.func 29) #[] #[]] [rows encEn 110 2 A cap l] (fun v Γ' => v = .tuple #[] ∧ Γ' = [rows encEn 110 2 A cap (isort cmpE l)]) := by
  refine Does.enter Tryz.func50 rfl Tryz.ntmps50 rfl (fun w0 => ?_)
  refine To.seq (To.reg (To.a (To.nil (To.thenN (To.seq (To.reg ?_))))))
  refine To.m ?_
  refine To.a ?_
  refine To.a (To.nil (To.thenN (To.seq (To.block ?_))))
  refine To.loopOnce ?_
  refine To.seq (To.seq (To.reg (To.m ?_)))
  refine To.m ?_
  refine To.r (Rd.leq rfl rfl rfl) ?_
  refine To.nil (To.thenN ?_)
  refine To.condP rfl (fun c13 => ?_) (fun c13 => ?_)
  ·
   exfalso; omega
  refine To.exit (To.thenX (To.thenX (To.blockX (To.thenN (To.seq (To.reg (To.m ?_)))))))
  refine To.m ?_
  refine To.m ?_
  refine To.m ?_
  refine To.call [0] rfl rfl rfl (Ent.fn rfl rfl ca76) rfl (insE_fn A cap l hl) ?_
  rintro _ _ ⟨rfl, rfl⟩
  refine To.nil (To.thenN (To.block ?_))
  refine To.loopOnce ?_
  refine To.seq (To.seq (To.reg (To.m ?_)))
  refine To.m ?_
  refine To.r (Rd.lss rfl rfl rfl) ?_
  refine To.nil (To.thenN ?_)
  refine To.condP rfl (fun c30 => ?_) (fun c30 => ?_)
  ·
   exfalso; omega
  refine To.exit (To.thenX (To.thenX (To.blockX ?_)))
  refine To.end0 (.inr rfl) Tryz.results50 ?_
  exact ⟨rfl, rfl⟩
set_option maxHeartbeats 2000000 in
set_option maxRecDepth 100000 in
theorem sst_fn (A : Option Addr) (cap : Nat) (l : List (Int × Int)) (hl : l.length ≤ 16) :
    Does Tryz.prog 28 [.slice A l.length cap, .func (.func 29) #[] #[]] [rows encEn 110 2 A cap l] (fun v Γ' => v = .tuple #[] ∧ Γ' = [rows encEn 110 2 A cap (isort cmpE l)]) := by
  refine Does.enter Tryz.func28 rfl Tryz.ntmps28 rfl (fun w0 => ?_)
  refine To.reg (To.m ?_)
  refine To.m ?_
  refine To.r (Rd.len rfl rfl Tryz.underlying38) ?_
  refine To.m ?_
  refine To.call [0] rfl rfl rfl (Ent.fn rfl rfl ca50) rfl (stab_fn A cap l hl) ?_
  rintro _ _ ⟨rfl, rfl⟩
  refine To.nil ?_
  refine To.end0 (.inr rfl) Tryz.results28 ?_
  exact ⟨rfl, rfl⟩
theorem fill_step {l : List (Int × Int)} {i : Nat} {x : Int × Int} (hx : l[i]? = some x) : (l.take i ++ List.replicate (l.length - i) ((0 : Int), (0 : Int))).set i x = l.take (i + 1) ++ List.replicate (l.length - (i + 1)) (0, 0) := by
  have hi : i < l.length := (List.getElem?_eq_some_iff.1 hx).1
  have h1 : (l.take i).length = i := by rw [List.length_take]; omega
  rw [List.set_append_right _ _ (by omega), h1, Nat.sub_self, show l.length - i = (l.length - (i + 1)) + 1 from by omega, List.replicate_succ, List.set_cons_zero, take_of_get hx]
  simp
theorem at_drop {α : Type} {D S : List α} {i : Nat} (h : D.drop i = S.drop i) (k : Nat) : D[i + k]? = S[i + k]? := by
  have := congrArg (fun l => l[k]?) h
  simpa using this
theorem keep_step {α : Type} {D out : List α} {x : α} (h : D.take out.length = out) (hk : out.length < D.length) : (D.set out.length x).take (out ++ [x]).length = out ++ [x] := by
  have h2 : (D.set out.length x)[out.length]? = some x := List.getElem?_set_self hk
  rw [List.length_append, List.length_cons, List.length_nil, Nat.zero_add, take_of_get h2, List.take_set_of_le (Nat.le_refl _), h]
theorem drop_step {α : Type} {D S : List α} {i k : Nat} {x : α} (h : D.drop i = S.drop i) (hk : k ≤ i) : (D.set k x).drop (i + 1) = S.drop (i + 1) := by
  rw [List.drop_set_of_lt (by omega), ← List.drop_drop, h, List.drop_drop]
theorem drop_next {α : Type} {D S : List α} {i : Nat} (h : D.drop i = S.drop i) : D.drop (i + 1) = S.drop (i + 1) := by
  rw [← List.drop_drop, h, List.drop_drop]
set_option maxHeartbeats 2000000 in
set_option maxRecDepth 100000 in
theorem tof_fn (A : Option Addr) (ca : Nat) (l : List (Int × Int)) (hl : l.length ≤ 16) :
    Does Tryz.prog 13 [.slice A l.length ca] [ros encEn A l] (fun v Γ' => ∃ B q, v = .agg #[.slice B (ofT l).length q] ∧ Γ' = [rows encEn 110 2 B q (ofT l)]) := by
  refine Does.enter Tryz.func13 rfl Tryz.ntmps13 rfl (fun w0 => ?_)
  refine To.seq (To.reg ?_)
  refine To.alloc rfl rfl rfl rfl z40 (fun b2 => ?_)
  refine To.nil (To.thenN (To.seq (To.reg (To.m ?_))))
  refine To.r (Rd.len rfl rfl Tryz.underlying25) ?_
  refine To.mk rfl rfl rfl (Mk.makeRowsN (enc := encEn) (z := ((0 : Int), (0 : Int))) (n := l.length) rfl (by decide) rfl s38 rfl rfl (by omega) (by simp only [maxLen]; omega)) ?_
  rintro _ _ ⟨b11, rfl, rfl⟩
  refine To.a (To.nil (To.thenN (To.seq (To.seq (To.reg ?_)))))
  refine To.m ?_
  refine To.r (Rd.len rfl rfl Tryz.underlying25) ?_
  refine To.m (To.nil (To.thenN (To.block ?_)))
  refine To.sub [(2, .pointer (some ⟨b2, 0, none⟩)), (3, .slice (some ⟨b11, 0, none⟩) (List.replicate l.length ((0 : Int), (0 : Int))).length l.length), (12, .slice A l.length ca), (13, .int .i64 ((l.length : Nat) : Int)), (14, .int .i64 ((0 : Nat) : Int))] ⟨rfl, rfl, rfl, rfl, rfl, trivial⟩ ?_
  refine To.only [1, 0, 0] rfl ?_
  refine To.loop (fun mz ρ Γ => ∃ (Ad : Option Addr) (D : List (Int × Int)) (i : Nat), ρ = [(2, .pointer (some ⟨b2, 0, none⟩)), (3, .slice Ad D.length l.length), (12, .slice A l.length ca), (13, .int .i64 ((l.length : Nat) : Int)), (14, .int .i64 ((i : Nat) : Int))] ∧ Γ = [box b2 [.slice none 0 0] 40, rows encEn 110 2 Ad l.length D, ros encEn A l] ∧ mz = l.length - i ∧ (i ≤ l.length) ∧ (D = l.take i ++ List.replicate (l.length - i) (0, 0))) (l.length - 0) ⟨(some ⟨b11, 0, none⟩), (List.replicate l.length ((0 : Int), (0 : Int))), 0, rfl, rfl, rfl, (Nat.zero_le _), (by simp)⟩ ?_
  rintro mz _ _ ⟨Ad, D, i, rfl, rfl, rfl, hi, hD⟩
  have hDl : D.length = l.length := by rw [hD, List.length_append, List.length_take, List.length_replicate]; omega
  refine To.seq (To.reg ?_)
  refine To.r (Rd.lss rfl rfl rfl) ?_
  refine To.nil (To.thenN (To.seq ?_))
  refine To.condP rfl (fun c15 => ?_) (fun c15 => ?_)
  ·
   obtain ⟨x, hx⟩ : ∃ z0, l[i]? = some z0 := ⟨l[i]'(by omega), List.getElem?_eq_getElem _⟩
   refine To.skip (To.thenN (To.seq (To.block (To.seq (To.reg (To.m ?_))))))
   refine To.r (Rd.indexRos encEn_ok (i := 2) (j := i) rfl rfl rfl s25 rfl hx) ?_
   refine To.r (Rd.loadS (i := 2) rfl rfl r108 rfl (ros_gives encEn_ok hx) (encEn_ok.len _)) ?_
   refine To.alloc rfl rfl rfl rfl z108 (fun b5 => ?_)
   refine To.a ?_
   refine To.u (Up.storeS (i := 0) rfl rfl rfl r108 rfl rfl rfl (box_takesAll rfl)) ?_
   refine To.nil (To.thenN ?_)
   obtain ⟨y0, hy0⟩ : ∃ z0, D[i]? = some z0 := ⟨D[i]'(by omega), List.getElem?_eq_getElem _⟩
   refine To.reg (To.m ?_)
   refine To.m ?_
   refine To.r (Rd.indexArr (j := 0) rfl (ArrTy.of (size := 1) Tryz.underlying108 (by kernel_rfl)) rfl rfl (by decide)) ?_
   refine To.lo 0 c2 ?_
   refine To.r (Rd.indexArr (j := 1) rfl (ArrTy.of (size := 1) Tryz.underlying108 (by kernel_rfl)) rfl rfl (by decide)) ?_
   refine To.lo 0 c2 ?_
   refine To.r (Rd.build (vs := [(0, .int .i64 x.1), (1, .int .i64 x.2)]) (cells := [.int .i64 x.1, .int .i64 x.2]) rfl rfl rfl (by kernel_rfl)) ?_
   refine To.r (Rd.indexRows (i := 2) (j := i) rfl rfl rfl s38 rfl hy0) ?_
   refine To.u (Up.storeS (i := 2) (us := encEn x) rfl rfl rfl r110 (encEn_ok.len _) rfl rfl (rows_takes encEn_ok (by decide) (by omega))) ?_
   refine To.nil (To.blockN (To.thenN (To.reg ?_)))
   refine To.r (Rd.inc rfl rfl rfl (by omega)) ?_
   refine To.m (To.nil (To.thenN ?_))
   refine To.sub [(2, .pointer (some ⟨b2, 0, none⟩)), (3, .slice Ad (D.set i x).length l.length), (12, .slice A l.length ca), (13, .int .i64 ((l.length : Nat) : Int)), (14, .int .i64 (((i + 1) : Nat) : Int))] ⟨rfl, (congrArg (fun n : Nat => some (Value.slice Ad n l.length)) List.length_set.symm), rfl, rfl, rfl, trivial⟩ ?_
   refine To.only [1, 1, 1] rfl ?_
   refine To.again (l.length - (i + 1)) (by omega) ⟨Ad, (D.set i x), i + 1, rfl, rfl, rfl, (by omega), (by rw [hD, fill_step hx])⟩
  refine To.exit (To.thenX (To.thenX (To.blockX (To.thenN (To.seq ?_)))))
  obtain rfl : D = l := by rw [hD, show i = l.length from by omega]; simp
  refine To.sub [(2, .pointer (some ⟨b2, 0, none⟩)), (3, .slice Ad D.length D.length)] ⟨rfl, rfl, trivial⟩ ?_
  refine To.reg (To.m ?_)
  refine To.call [1] rfl rfl rfl (Ent.fn rfl rfl ca28) rfl (sst_fn Ad D.length D hl) ?_
  rintro _ _ ⟨rfl, rfl⟩
  refine To.nil (To.thenN (To.seq ?_))
  refine To.only [0, 0] rfl ?_
  obtain ⟨S, hS⟩ : ∃ S, S = isort cmpE D := ⟨_, rfl⟩
  have hSl : S.length = D.length := by rw [hS, isort_len]
  rw [← hS, ← hSl]
  refine To.reg (To.m ?_)
  refine To.r (Rd.sliceHi (hi := 0) rfl s38 rfl rfl (by omega)) ?_
  refine To.a (To.nil (To.thenN (To.seq (To.seq (To.reg ?_)))))
  refine To.m ?_
  refine To.r (Rd.len rfl rfl Tryz.underlying38) ?_
  refine To.m (To.nil (To.thenN (To.block ?_)))
  refine To.sub [(2, .pointer (some ⟨b2, 0, none⟩)), (3, .slice Ad S.length S.length), (6, .slice Ad ([] : List (Int × Int)).length S.length), (32, .slice Ad S.length S.length), (33, .int .i64 ((S.length : Nat) : Int)), (34, .int .i64 ((0 : Nat) : Int))] ⟨rfl, rfl, rfl, rfl, rfl, rfl, trivial⟩ ?_
  refine To.only [0, 0] rfl ?_
  refine To.loop (fun mz ρ Γ => ∃ (D2 : List (Int × Int)) (o : List (Int × Int)) (i : Nat), ρ = [(2, .pointer (some ⟨b2, 0, none⟩)), (3, .slice Ad D2.length S.length), (6, .slice Ad o.length S.length), (32, .slice Ad D2.length S.length), (33, .int .i64 ((S.length : Nat) : Int)), (34, .int .i64 ((i : Nat) : Int))] ∧ Γ = [rows encEn 110 2 Ad S.length D2, box b2 [.slice none 0 0] 40] ∧ mz = S.length - i ∧ (i ≤ S.length) ∧ (D2.length = S.length) ∧ (o.length ≤ i) ∧ (D2.take o.length = o) ∧ (D2.drop i = S.drop i) ∧ (dedup S = o ++ dedup (S.drop i))) (S.length - 0) ⟨S, ([] : List (Int × Int)), 0, rfl, rfl, rfl, (Nat.zero_le _), rfl, (Nat.le_refl _), rfl, rfl, rfl⟩ ?_
  rintro mz _ _ ⟨D2, o, i, rfl, rfl, rfl, hi, hl2, ho, hk, hd, hI⟩
  refine To.seq (To.reg ?_)
  refine To.r (Rd.lss rfl rfl rfl) ?_
  refine To.nil (To.thenN (To.seq ?_))
  refine To.condP rfl (fun c35 => ?_) (fun c35 => ?_)
  ·
   obtain ⟨x, hx⟩ : ∃ z0, D2[i]? = some z0 := ⟨D2[i]'(by omega), List.getElem?_eq_getElem _⟩
   refine To.skip (To.thenN (To.seq (To.block (To.seq (To.reg (To.m ?_))))))
   refine To.r (Rd.indexRows (i := 0) (j := i) rfl rfl rfl s38 rfl hx) ?_
   refine To.r (Rd.loadS (i := 0) rfl rfl r110 rfl (rows_gives encEn_ok hx) (encEn_ok.len _)) ?_
   refine To.alloc rfl rfl rfl rfl z110 (fun b8 => ?_)
   refine To.a ?_
   refine To.u (Up.storeS (i := 0) rfl rfl rfl r110 rfl rfl rfl (box_takesAll rfl)) ?_
   refine To.nil (To.thenN (To.seq ?_))
   have hxS : S[i]? = some x := by have := at_drop hd 0; rw [Nat.add_zero] at this; rw [← this]; exact hx
   refine To.flow [] [⟨0, [], 0⟩, ⟨1, [], 0⟩, ⟨2, [], 0⟩, ⟨3, [], 0⟩, ⟨4, [], 0⟩, ⟨5, [], 0⟩, ⟨6, [], 0⟩, ⟨7, [], 0⟩, ⟨8, [], 0⟩, ⟨12, [], 0⟩, ⟨9, [], 1⟩, ⟨10, [], 0⟩, ⟨11, [], 1⟩, ⟨13, [], 1⟩, ⟨14, [], 0⟩, ⟨15, [], 0⟩] mixed (by kernel_rfl) (oks_nil _) ?_
   refine FlowS.mo ?_
   refine FlowS.f rfl (Rd.inc rfl rfl rfl (by omega)) ?_
   refine FlowS.mo ?_
   refine FlowS.f rfl (Rd.len rfl rfl Tryz.underlying38) ?_
   refine FlowS.f rfl (Rd.eql rfl rfl rfl) ?_
   refine FlowS.rdP rfl rfl rfl rfl (Rd.move rfl rfl) (fun g44 => ?_) (fun g44 => ?_)
   ·
    refine FlowS.skip (by decide) rfl rfl rfl rfl ?_
    refine FlowS.skip (by decide) rfl rfl rfl rfl ?_
    refine FlowS.skip (by decide) rfl rfl rfl rfl ?_
    refine FlowS.skip (by decide) rfl rfl rfl rfl ?_
    refine FlowS.skip (by decide) rfl rfl rfl rfl ?_
    refine FlowS.skip (by decide) rfl rfl rfl rfl ?_
    refine FlowS.skip (by decide) rfl rfl rfl rfl ?_
    refine FlowS.skip (by decide) rfl rfl rfl rfl ?_
    refine FlowS.skip (by decide) rfl rfl rfl rfl ?_
    refine FlowS.f rfl (Rd.pickT rfl rfl rfl) ?_
    refine FlowS.fin ?_
    refine To.thenN ?_
    refine To.condT rfl ?_
    refine To.reg (To.m ?_)
    refine To.r (Rd.loadS (i := 0) rfl rfl r110 rfl box_whole rfl) ?_
    refine To.mk rfl rfl rfl (Mk.sliceN (us := [.int .i64 x.1, .int .i64 x.2]) rfl s38 rfl rfl rfl rfl rfl rfl) ?_
    rintro _ _ ⟨b57, rfl, rfl⟩
    refine To.ge rfl rfl rfl (Ge.appendIn encEn_ok (by decide) (i := 2) (j := 0) (k := o.length) (el := x) rfl s38 rfl rfl rfl rfl rfl (by omega)) ?_
    rintro _ _ ⟨rfl, rfl⟩
    refine To.a (To.nil (To.blockN (To.thenN (To.reg ?_))))
    refine To.r (Rd.inc rfl rfl rfl (by omega)) ?_
    refine To.m (To.nil (To.thenN ?_))
    refine To.sub [(2, .pointer (some ⟨b2, 0, none⟩)), (3, .slice Ad (D2.set o.length x).length S.length), (6, .slice Ad (o ++ [x]).length S.length), (32, .slice Ad (D2.set o.length x).length S.length), (33, .int .i64 ((S.length : Nat) : Int)), (34, .int .i64 (((i + 1) : Nat) : Int))] ⟨rfl, (congrArg (fun n : Nat => some (Value.slice Ad n S.length)) List.length_set.symm), (congrArg (fun n : Nat => some (Value.slice Ad n S.length)) (by simp)), (congrArg (fun n : Nat => some (Value.slice Ad n S.length)) List.length_set.symm), rfl, rfl, trivial⟩ ?_
    refine To.only [2, 2] rfl ?_
    refine To.again (S.length - (i + 1)) (by omega) ⟨(D2.set o.length x), (o ++ [x]), i + 1, rfl, rfl, rfl, (by omega), (by rw [List.length_set]; exact hl2), (by rw [List.length_append, List.length_cons, List.length_nil]; omega), (keep_step hk (by omega)), (drop_step hd ho), (by rw [hI, dedup_last hxS (by omega), List.drop_eq_nil_of_le (by omega : S.length ≤ i + 1)]; simp [dedup])⟩
   obtain ⟨y, hy⟩ : ∃ z0, D2[i + 1]? = some z0 := ⟨D2[i + 1]'(by omega), List.getElem?_eq_getElem _⟩
   have hyS : S[i + 1]? = some y := by rw [← at_drop hd 1]; exact hy
   refine FlowS.mo ?_
   refine FlowS.mo ?_
   refine FlowS.f rfl (Rd.inc rfl rfl rfl (by omega)) ?_
   refine FlowS.fi fl110_0 ?_
   refine FlowS.r rfl (Rd.indexRows (i := 1) (j := (i + 1)) rfl rfl rfl s38 rfl hy) ?_
   refine FlowS.fi fl110_0 ?_
   refine FlowS.r rfl (Rd.load (i := 1) rfl rfl c2 rfl (gives_at (f := 0) (rows_gives encEn_ok hy) rfl)) ?_
   refine FlowS.lo 0 c2 ?_
   refine FlowS.f rfl (Rd.neq rfl rfl rfl) ?_
   refine FlowS.f rfl (Rd.pickF rfl rfl rfl) ?_
   refine FlowS.fin ?_
   refine To.thenN ?_
   refine To.condP rfl (fun c54 => ?_) (fun c54 => ?_)
   ·
    refine To.reg (To.m ?_)
    refine To.r (Rd.loadS (i := 0) rfl rfl r110 rfl box_whole rfl) ?_
    refine To.mk rfl rfl rfl (Mk.sliceN (us := [.int .i64 x.1, .int .i64 x.2]) rfl s38 rfl rfl rfl rfl rfl rfl) ?_
    rintro _ _ ⟨b57_2, rfl, rfl⟩
    refine To.ge rfl rfl rfl (Ge.appendIn encEn_ok (by decide) (i := 2) (j := 0) (k := o.length) (el := x) rfl s38 rfl rfl rfl rfl rfl (by omega)) ?_
    rintro _ _ ⟨rfl, rfl⟩
    refine To.a (To.nil (To.blockN (To.thenN (To.reg ?_))))
    refine To.r (Rd.inc rfl rfl rfl (by omega)) ?_
    refine To.m (To.nil (To.thenN ?_))
    refine To.sub [(2, .pointer (some ⟨b2, 0, none⟩)), (3, .slice Ad (D2.set o.length x).length S.length), (6, .slice Ad (o ++ [x]).length S.length), (32, .slice Ad (D2.set o.length x).length S.length), (33, .int .i64 ((S.length : Nat) : Int)), (34, .int .i64 (((i + 1) : Nat) : Int))] ⟨rfl, (congrArg (fun n : Nat => some (Value.slice Ad n S.length)) List.length_set.symm), (congrArg (fun n : Nat => some (Value.slice Ad n S.length)) (by simp)), (congrArg (fun n : Nat => some (Value.slice Ad n S.length)) List.length_set.symm), rfl, rfl, trivial⟩ ?_
    refine To.only [2, 2] rfl ?_
    refine To.again (S.length - (i + 1)) (by omega) ⟨(D2.set o.length x), (o ++ [x]), i + 1, rfl, rfl, rfl, (by omega), (by rw [List.length_set]; exact hl2), (by rw [List.length_append, List.length_cons, List.length_nil]; omega), (keep_step hk (by omega)), (drop_step hd ho), (by rw [hI, dedup_at hxS hyS, if_pos c54]; simp)⟩
   refine To.skip (To.blockN (To.thenN (To.reg ?_)))
   refine To.r (Rd.inc rfl rfl rfl (by omega)) ?_
   refine To.m (To.nil (To.thenN ?_))
   refine To.sub [(2, .pointer (some ⟨b2, 0, none⟩)), (3, .slice Ad D2.length S.length), (6, .slice Ad o.length S.length), (32, .slice Ad D2.length S.length), (33, .int .i64 ((S.length : Nat) : Int)), (34, .int .i64 (((i + 1) : Nat) : Int))] ⟨rfl, rfl, rfl, rfl, rfl, rfl, trivial⟩ ?_
   refine To.only [1, 1] rfl ?_
   refine To.again (S.length - (i + 1)) (by omega) ⟨D2, o, i + 1, rfl, rfl, rfl, (by omega), hl2, (by omega), hk, (drop_next hd), (by rw [hI, dedup_at hxS hyS, if_neg c54])⟩
  refine To.exit (To.thenX (To.thenX (To.blockX (To.thenN (To.seq (To.reg (To.m ?_)))))))
  refine To.r (Rd.build (vs := [(0, .slice Ad o.length S.length)]) (cells := [.slice Ad o.length S.length]) rfl rfl rfl (by kernel_rfl)) ?_
  refine To.u (Up.storeS (i := 1) rfl rfl rfl r40 rfl rfl rfl (box_takesAll rfl)) ?_
  refine To.nil (To.thenN (To.ret ?_))
  have hfin : o = ofT D := by
    have := hI
    rw [List.drop_eq_nil_of_le (by omega : S.length ≤ i)] at this
    rw [← dedup_of, ← hS, this]; first | done | simp [dedup]
  refine To.only [0, 0] rfl ?_
  refine To.shrink encEn_ok o.length (by omega) ?_
  rw [hk]
  refine To.endC [0] rfl (.inl rfl) Tryz.results13 rfl (i := 1) rfl r40 rfl ?_
  exact ⟨Ad, S.length, by rw [← hfin]; first | done | rfl, by rw [← hfin]⟩
end Go.Proofs.YtoehnbacbobhiaaGreatDoor

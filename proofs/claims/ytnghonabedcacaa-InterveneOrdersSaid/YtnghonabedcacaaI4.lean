/- Interventions: cut, turned and compared. Own text (walks printed by sx.py). -/
import Derived.Test.YtnghonabedcacaaI3
namespace Go.Proofs.Ytnghonabedcacaa
open Go.RowKit Go.Flow Go.Mem Go.Sep
set_option maxHeartbeats 2000000 in
set_option maxRecDepth 100000 in
theorem diff_fn (A B : Option Addr) (a b : Nat) (p : List Ky) (x : List Ms) (hp : p.length ≤ a) (hx : x.length ≤ b) :
    Does Try.prog 5 [.agg #[.slice A p.length a, .slice B x.length b]] [ros Ky.cells A p, ros Ms.cells B x] (fun v Γ' => ∃ A' a' B' b', v = .agg #[.slice A' (sortU Ky.cmp (p.take 4)).length a', .slice B' (sortU Ms.cmp (x.take 4)).length b'] ∧ Γ' = [rows Ky.cells 37 4 A' a' (sortU Ky.cmp (p.take 4)), rows Ms.cells 33 3 B' b' (sortU Ms.cmp (x.take 4))]) := by
  refine Does.enter Try.func5 rfl Try.ntmps5 rfl (fun w0 => ?_)
  refine To.seq ?_
  refine To.reg ?_
  refine To.boxed rfl rfl rfl rfl rfl rfl (fun b1 => ?_)
  refine To.alloc rfl rfl rfl rfl z25 (fun b2 => ?_)
  refine To.nil ?_
  refine To.thenN ?_
  refine To.seq ?_
  have h1 : (p.take 4).length ≤ a := by rw [List.length_take]; omega
  have h2 : (x.take 4).length ≤ b := by rw [List.length_take]; omega
  have h3 : (p.take 4).length ≤ 4 := by rw [List.length_take]; omega
  have h4 : (x.take 4).length ≤ 4 := by rw [List.length_take]; omega
  refine To.take 4 2 rfl ?_
  refine To.take 4 4 rfl ?_
  refine To.flow [ros Ms.cells B (x.take 4), ros Ky.cells A (p.take 4), box b1 [.slice A p.length a, .slice B x.length b] 25, ros Ky.cells A p, ros Ms.cells B x] [⟨0, [], 0⟩, ⟨2, [], 0⟩, ⟨8, [], 0⟩, ⟨10, [], 0⟩, ⟨1, [], 1⟩, ⟨3, [], 1⟩, ⟨4, [], 0⟩, ⟨5, [], 0⟩, ⟨6, [], 0⟩, ⟨7, [], 4⟩, ⟨9, [], 1⟩, ⟨11, [], 1⟩, ⟨12, [], 0⟩, ⟨13, [], 0⟩, ⟨14, [], 0⟩, ⟨15, [7], 4⟩, ⟨16, [7, 15], 0⟩, ⟨17, [7, 15], 5⟩] mixed (by kernel_rfl) (oks_cons (oks_at 0 rfl) (oks_cons (oks_at 1 rfl) (oks_cons (oks_at 3 rfl) (oks_cons (oks_at 4 rfl) (oks_cons (oks_at 5 rfl) (oks_nil _)))))) ?_
  refine FlowS.free rfl rfl rfl rfl (Rd.field rfl rfl fl25_0) ?_
  refine FlowS.free rfl rfl rfl rfl (Rd.field rfl rfl fl25_0) ?_
  refine FlowS.free rfl rfl rfl rfl (Rd.field rfl rfl fl25_1) ?_
  refine FlowS.free rfl rfl rfl rfl (Rd.field rfl rfl fl25_1) ?_
  refine FlowS.rd rfl rfl rfl rfl (Rd.load (i := 3) rfl rfl c22 rfl (box_gives1 rfl)) ?_
  refine FlowS.rd rfl rfl rfl rfl (Rd.load (i := 3) rfl rfl c22 rfl (box_gives1 rfl)) ?_
  refine FlowS.free rfl rfl rfl rfl (Rd.len rfl rfl Try.underlying22) ?_
  refine FlowS.free rfl rfl rfl rfl (Rd.minTake (l := p) (n := 4) rfl rfl rfl) ?_
  refine FlowS.free rfl rfl rfl rfl (Rd.sliceHi (hi := ((p.take 4).length)) rfl s22 rfl rfl (by omega)) ?_
  refine FlowS.callM rfl rfl rfl rfl rfl (Ent.fn rfl rfl ca16) (sortKeys_fn A a (p.take 4) (by omega)) rfl (oks_cons (oks_at 1 rfl) (oks_nil _)) ?_
  rintro _ _ ⟨BK, qK, rfl, rfl⟩
  refine ⟨rfl, ?_⟩
  refine FlowS.rd rfl rfl rfl rfl (Rd.load (i := 3) rfl rfl c23 rfl (box_gives1 rfl)) ?_
  refine FlowS.rd rfl rfl rfl rfl (Rd.load (i := 3) rfl rfl c23 rfl (box_gives1 rfl)) ?_
  refine FlowS.free rfl rfl rfl rfl (Rd.len rfl rfl Try.underlying23) ?_
  refine FlowS.free rfl rfl rfl rfl (Rd.minTake (l := x) (n := 4) rfl rfl rfl) ?_
  refine FlowS.free rfl rfl rfl rfl (Rd.sliceHi (hi := ((x.take 4).length)) rfl s23 rfl rfl (by omega)) ?_
  refine FlowS.callM rfl rfl rfl rfl rfl (Ent.fn rfl rfl ca17) (sortMessages_fn B b (x.take 4) (by omega)) rfl (oks_cons (oks_at 1 rfl) (oks_nil _)) ?_
  rintro _ _ ⟨BM, qM, rfl, rfl⟩
  refine ⟨rfl, ?_⟩
  refine FlowS.free rfl rfl rfl rfl (Rd.build (vs := [(0, .slice BK ((sortU Ky.cmp (p.take 4)).length) qK), (1, .slice BM ((sortU Ms.cmp (x.take 4)).length) qM)]) (cells := [.slice BK ((sortU Ky.cmp (p.take 4)).length) qK, .slice BM ((sortU Ms.cmp (x.take 4)).length) qM]) rfl rfl rfl (by kernel_rfl)) ?_
  refine FlowS.up (Γ' := [rows Ms.cells 33 3 BM qM (sortU Ms.cmp (x.take 4)), rows Ky.cells 37 4 BK qK (sortU Ky.cmp (p.take 4)), ros Ms.cells B (x.take 4), ros Ky.cells A (p.take 4), box b2 [.slice BK ((sortU Ky.cmp (p.take 4)).length) qK, .slice BM ((sortU Ms.cmp (x.take 4)).length) qM] 25, box b1 [.slice A p.length a, .slice B x.length b] 25, ros Ky.cells A p, ros Ms.cells B x]) rfl rfl rfl (Up.storeS (i := 4) rfl rfl rfl r25 rfl rfl rfl (box_takesAll rfl)) (oks_cons (oks_at 2 rfl) (oks_cons (oks_at 3 rfl) (oks_cons (oks_at 5 rfl) (oks_cons (oks_at 6 rfl) (oks_cons (oks_at 7 rfl) (oks_nil _)))))) ?_
  refine FlowS.fin ?_
  refine To.as [rows Ms.cells 33 3 BM qM (sortU Ms.cmp (x.take 4)), rows Ky.cells 37 4 BK qK (sortU Ky.cmp (p.take 4)), ros Ms.cells B (x.take 4), ros Ky.cells A (p.take 4), box b2 [.slice BK ((sortU Ky.cmp (p.take 4)).length) qK, .slice BM ((sortU Ms.cmp (x.take 4)).length) qM] 25, box b1 [.slice A p.length a, .slice B x.length b] 25, ros Ky.cells A p, ros Ms.cells B x] rfl ?_
  refine To.sub [(0, .agg #[.slice A p.length a, .slice B x.length b]), (1, .pointer (some ⟨b1, 0, none⟩)), (2, .pointer (some ⟨b2, 0, none⟩))] ⟨rfl, rfl, rfl, trivial⟩ ?_
  refine To.thenN ?_
  refine To.ret ?_
  refine To.endC [1, 0] rfl (.inl rfl) Try.results5 rfl (i := 4) rfl r25 rfl ?_
  exact ⟨_, _, _, _, rfl, rfl⟩
set_option maxHeartbeats 2000000 in
set_option maxRecDepth 100000 in
theorem turn_fn (A B : Option Addr) (a b : Nat) (p : List Ky) (x : List Ms) (hp : p.length ≤ 1000) (hx : x.length ≤ 1000) :
    Does Try.prog 8 [.agg #[.slice A p.length a, .slice B x.length b]] [ros Ky.cells A p, ros Ms.cells B x] (fun v Γ' => ∃ A' a' B' b', v = .agg #[.slice A' p.reverse.length a', .slice B' x.reverse.length b'] ∧ Γ' = [rows Ky.cells 37 4 A' a' p.reverse, rows Ms.cells 33 3 B' b' x.reverse]) := by
  refine Does.enter Try.func8 rfl Try.ntmps8 rfl (fun w0 => ?_)
  refine To.seq ?_
  refine To.reg ?_
  refine To.boxed rfl rfl rfl rfl rfl rfl (fun b1 => ?_)
  refine To.alloc rfl rfl rfl rfl z29 (fun b2 => ?_)
  refine To.nil ?_
  refine To.thenN ?_
  refine To.seq ?_
  refine To.reg ?_
  refine To.alloc rfl rfl rfl rfl z29 (fun b3 => ?_)
  refine To.nil ?_
  refine To.thenN ?_
  refine To.seq ?_
  refine To.seq ?_
  refine To.nilRow (Ky.cells) 37 4 ?_
  refine To.reg ?_
  refine To.rd rfl rfl rfl (Rd.field rfl rfl fl25_0) ?_
  refine To.rd rfl rfl rfl (Rd.load (i := 3) rfl rfl c22 rfl (box_gives1 rfl)) ?_
  refine To.rd rfl rfl rfl (Rd.len rfl rfl Try.underlying22) ?_
  refine To.rd rfl rfl rfl (Rd.sub64 rfl rfl rfl (by omega)) ?_
  refine To.rd rfl rfl rfl (Rd.assign rfl rfl) ?_
  refine To.nil ?_
  refine To.thenN ?_
  refine To.block ?_
  refine To.sub [(1, .pointer (some ⟨b1, 0, none⟩)), (2, .pointer (some ⟨b2, 0, none⟩)), (3, .pointer (some ⟨b3, 0, none⟩)), (4, .int .i64 (((p.length : Nat) : Int) - 1))] ⟨rfl, rfl, rfl, rfl, trivial⟩ ?_
  refine To.only [3, 2, 1, 0, 0, 0] rfl ?_
  refine To.loop (fun mz ρ Γ => ∃ (An : Option Addr) (qn : Nat) (P : List Ky) (k : Nat), ρ = [(1, .pointer (some ⟨b1, 0, none⟩)), (2, .pointer (some ⟨b2, 0, none⟩)), (3, .pointer (some ⟨b3, 0, none⟩)), (4, .int .i64 (((k : Nat) : Int) - 1))] ∧ Γ = [box b1 [.slice A p.length a, .slice B x.length b] 25, box b2 [.slice none 0 0, .slice none 0 0] 29, box b3 [.slice An P.length qn, .slice none 0 0] 29, rows Ky.cells 37 4 An qn P, ros Ky.cells A p, ros Ms.cells B x] ∧ mz = 2 * k ∧ (k ≤ p.length) ∧ (P = (p.drop k).reverse)) (2 * p.length) ⟨none, 0, ([] : List Ky), p.length, rfl, rfl, rfl, (Nat.le_refl _), (by simp)⟩ ?_
  rintro mz _ _ ⟨An, qn, P, k, rfl, rfl, rfl, hk, hP⟩
  have hPl : P.length ≤ p.length := by rw [hP, List.length_reverse, List.length_drop]; omega
  refine To.seq ?_
  refine To.seq ?_
  refine To.reg ?_
  refine To.rd rfl rfl rfl (Rd.move rfl rfl) ?_
  refine To.rd rfl rfl rfl (Rd.geq rfl rfl rfl) ?_
  refine To.nil ?_
  refine To.thenN ?_
  refine To.condP rfl (fun c11 => ?_) (fun c11 => ?_)
  ·
    obtain ⟨y, hy⟩ : ∃ z0, p[k - 1]? = some z0 := ⟨p[k - 1]'(by omega), List.getElem?_eq_getElem _⟩
    refine To.skip ?_
    refine To.thenN ?_
    refine To.seq ?_
    refine To.block ?_
    refine To.flow [box b1 [.slice A p.length a, .slice B x.length b] 25, ros Ky.cells A p, ros Ms.cells B x] [⟨0, [], 0⟩, ⟨2, [], 0⟩, ⟨4, [], 0⟩, ⟨1, [], 1⟩, ⟨3, [], 1⟩, ⟨5, [], 1⟩, ⟨6, [], 1⟩, ⟨7, [], 2⟩, ⟨8, [7], 5⟩, ⟨9, [], 0⟩, ⟨10, [], 5⟩] mixed (by kernel_rfl) (oks_cons (oks_at 0 rfl) (oks_cons (oks_at 4 rfl) (oks_cons (oks_at 5 rfl) (oks_nil _)))) ?_
    refine FlowS.free rfl rfl rfl rfl (Rd.field rfl rfl fl29_0) ?_
    refine FlowS.free rfl rfl rfl rfl (Rd.field rfl rfl fl25_0) ?_
    refine FlowS.free rfl rfl rfl rfl (Rd.move rfl rfl) ?_
    refine FlowS.rd rfl rfl rfl rfl (Rd.load (i := 2) rfl rfl c22 rfl (box_gives1 rfl)) ?_
    refine FlowS.rd rfl rfl rfl rfl (Rd.load (i := 0) rfl rfl c22 rfl (box_gives1 rfl)) ?_
    refine FlowS.rd rfl rfl rfl rfl (Rd.indexRosI encK (i := 4) (j := (k - 1)) rfl rfl rfl (by omega) s22 rfl hy) ?_
    refine FlowS.rd rfl rfl rfl rfl (Rd.loadS (i := 4) rfl rfl r37 rfl (ros_gives encK hy) (encK.len _)) ?_
    refine FlowS.mk rfl rfl rfl rfl rfl (Mk.sliceN (us := [.int .u8 y.k, .int .i64 y.a, .int .i64 y.b, .int .i64 y.n]) rfl s22 rfl rfl rfl rfl rfl rfl) ?_
    rintro _ _ ⟨b21, rfl, rfl⟩
    refine FlowS.ge rfl rfl rfl rfl (Ge.append1 encK (i := 4) (j := 0) (el := y) rfl s22 rfl rfl rfl rfl rfl (by first | omega | (simp only [List.length_append, List.length_cons, List.length_nil]; omega)) (by first | omega | (simp only [List.length_append, List.length_cons, List.length_nil]; omega))) ?_
    rintro _ _ ⟨A22, q22, rfl, rfl⟩
    refine ⟨oks_cons (oks_at 1 rfl) (oks_cons (oks_at 5 rfl) (oks_cons (oks_at 6 rfl) (oks_nil _))), ?_⟩
    refine FlowS.free rfl rfl rfl rfl (Rd.field rfl rfl fl29_0) ?_
    refine FlowS.up (Γ' := [row 37 4 (some ⟨b21, 0, none⟩) 1 1 [.int .u8 y.k, .int .i64 y.a, .int .i64 y.b, .int .i64 y.n], box b1 [.slice A p.length a, .slice B x.length b] 25, box b2 [.slice none 0 0, .slice none 0 0] 29, box b3 [.slice A22 ((P ++ [y]).length) q22, .slice none 0 0] 29, rows Ky.cells 37 4 A22 q22 (P ++ [y]), ros Ky.cells A p, ros Ms.cells B x]) rfl rfl rfl (Up.store (i := 3) rfl rfl rfl c22 rfl rfl (box_takes1 rfl)) (oks_cons (oks_at 1 rfl) (oks_cons (oks_at 5 rfl) (oks_cons (oks_at 6 rfl) (oks_nil _)))) ?_
    refine FlowS.fin ?_
    refine To.as [row 37 4 (some ⟨b21, 0, none⟩) 1 1 [.int .u8 y.k, .int .i64 y.a, .int .i64 y.b, .int .i64 y.n], box b1 [.slice A p.length a, .slice B x.length b] 25, box b2 [.slice none 0 0, .slice none 0 0] 29, box b3 [.slice A22 ((P ++ [y]).length) q22, .slice none 0 0] 29, rows Ky.cells 37 4 A22 q22 (P ++ [y]), ros Ky.cells A p, ros Ms.cells B x] rfl ?_
    refine To.blockN ?_
    refine To.thenN ?_
    refine To.reg ?_
    refine To.rd rfl rfl rfl (Rd.move rfl rfl) ?_
    refine To.rd rfl rfl rfl (Rd.sub64 rfl rfl rfl (by omega)) ?_
    refine To.rd rfl rfl rfl (Rd.assign rfl rfl) ?_
    refine To.nil ?_
    refine To.sub [(1, .pointer (some ⟨b1, 0, none⟩)), (2, .pointer (some ⟨b2, 0, none⟩)), (3, .pointer (some ⟨b3, 0, none⟩)), (4, .int .i64 ((((k : Nat) : Int) - 1) - 1)), (11, .bool (decide (0 ≤ (((k : Nat) : Int) - 1))))] ⟨rfl, rfl, rfl, rfl, rfl, trivial⟩ ?_
    refine To.thenN ?_
    refine To.sub [(1, .pointer (some ⟨b1, 0, none⟩)), (2, .pointer (some ⟨b2, 0, none⟩)), (3, .pointer (some ⟨b3, 0, none⟩)), (4, .int .i64 ((((k - 1) : Nat) : Int) - 1))] ⟨rfl, rfl, rfl, (congrArg (fun n : Int => some (Value.int .i64 n)) (by omega)), trivial⟩ ?_
    refine To.only [1, 1, 1, 1, 1, 1] rfl ?_
    refine To.again (2 * (k - 1)) (by omega) ⟨A22, q22, (P ++ [y]), k - 1, rfl, rfl, rfl, (by omega), (by rw [hP, show p.drop (k - 1) = y :: p.drop k from by rw [drop_of_get hy, show k - 1 + 1 = k from by omega], List.reverse_cons])⟩
  ·
    refine To.exit ?_
    refine To.thenX ?_
    refine To.thenX ?_
    refine To.blockX ?_
    refine To.thenN ?_
    refine To.seq ?_
    refine To.seq ?_
    refine To.nilRow (Ms.cells) 33 3 ?_
    refine To.reg ?_
    refine To.rd rfl rfl rfl (Rd.field rfl rfl fl25_1) ?_
    refine To.rd rfl rfl rfl (Rd.load (i := 1) rfl rfl c23 rfl (box_gives1 rfl)) ?_
    refine To.rd rfl rfl rfl (Rd.len rfl rfl Try.underlying23) ?_
    refine To.rd rfl rfl rfl (Rd.sub64 rfl rfl rfl (by omega)) ?_
    refine To.rd rfl rfl rfl (Rd.assign rfl rfl) ?_
    refine To.nil ?_
    refine To.thenN ?_
    refine To.block ?_
    refine To.sub [(1, .pointer (some ⟨b1, 0, none⟩)), (2, .pointer (some ⟨b2, 0, none⟩)), (3, .pointer (some ⟨b3, 0, none⟩)), (5, .int .i64 (((x.length : Nat) : Int) - 1))] ⟨rfl, rfl, rfl, rfl, trivial⟩ ?_
    refine To.only [1, 1, 1, 1, 0, 0, 0] rfl ?_
    refine To.loop (fun mz ρ Γ => ∃ (Am : Option Addr) (qm : Nat) (Q : List Ms) (m : Nat), ρ = [(1, .pointer (some ⟨b1, 0, none⟩)), (2, .pointer (some ⟨b2, 0, none⟩)), (3, .pointer (some ⟨b3, 0, none⟩)), (5, .int .i64 (((m : Nat) : Int) - 1))] ∧ Γ = [box b1 [.slice A p.length a, .slice B x.length b] 25, box b2 [.slice none 0 0, .slice none 0 0] 29, box b3 [.slice An P.length qn, .slice Am Q.length qm] 29, rows Ky.cells 37 4 An qn P, rows Ms.cells 33 3 Am qm Q, ros Ky.cells A p, ros Ms.cells B x] ∧ mz = 2 * m ∧ (m ≤ x.length) ∧ (Q = (x.drop m).reverse)) (2 * x.length) ⟨none, 0, ([] : List Ms), x.length, rfl, rfl, rfl, (Nat.le_refl _), (by simp)⟩ ?_
    rintro mz _ _ ⟨Am, qm, Q, m, rfl, rfl, rfl, hm, hQ⟩
    have hQl : Q.length ≤ x.length := by rw [hQ, List.length_reverse, List.length_drop]; omega
    refine To.seq ?_
    refine To.seq ?_
    refine To.reg ?_
    refine To.rd rfl rfl rfl (Rd.move rfl rfl) ?_
    refine To.rd rfl rfl rfl (Rd.geq rfl rfl rfl) ?_
    refine To.nil ?_
    refine To.thenN ?_
    refine To.condP rfl (fun c29 => ?_) (fun c29 => ?_)
    ·
      obtain ⟨y, hy⟩ : ∃ z0, x[m - 1]? = some z0 := ⟨x[m - 1]'(by omega), List.getElem?_eq_getElem _⟩
      refine To.skip ?_
      refine To.thenN ?_
      refine To.seq ?_
      refine To.block ?_
      refine To.flow [box b1 [.slice A p.length a, .slice B x.length b] 25, ros Ky.cells A p, ros Ms.cells B x] [⟨0, [], 0⟩, ⟨2, [], 0⟩, ⟨4, [], 0⟩, ⟨1, [], 1⟩, ⟨3, [], 1⟩, ⟨5, [], 1⟩, ⟨6, [], 1⟩, ⟨7, [], 2⟩, ⟨8, [7], 5⟩, ⟨9, [], 0⟩, ⟨10, [], 5⟩] mixed (by kernel_rfl) (oks_cons (oks_at 0 rfl) (oks_cons (oks_at 5 rfl) (oks_cons (oks_at 6 rfl) (oks_nil _)))) ?_
      refine FlowS.free rfl rfl rfl rfl (Rd.field rfl rfl fl29_1) ?_
      refine FlowS.free rfl rfl rfl rfl (Rd.field rfl rfl fl25_1) ?_
      refine FlowS.free rfl rfl rfl rfl (Rd.move rfl rfl) ?_
      refine FlowS.rd rfl rfl rfl rfl (Rd.load (i := 2) rfl rfl c23 rfl (box_gives1 rfl)) ?_
      refine FlowS.rd rfl rfl rfl rfl (Rd.load (i := 0) rfl rfl c23 rfl (box_gives1 rfl)) ?_
      refine FlowS.rd rfl rfl rfl rfl (Rd.indexRosI encM (i := 6) (j := (m - 1)) rfl rfl rfl (by omega) s23 rfl hy) ?_
      refine FlowS.rd rfl rfl rfl rfl (Rd.loadS (i := 6) rfl rfl r33 rfl (ros_gives encM hy) (encM.len _)) ?_
      refine FlowS.mk rfl rfl rfl rfl rfl (Mk.sliceN (us := [.int .i64 y.f, .int .i64 y.t, .int .i64 y.n]) rfl s23 rfl rfl rfl rfl rfl rfl) ?_
      rintro _ _ ⟨b39, rfl, rfl⟩
      refine FlowS.ge rfl rfl rfl rfl (Ge.append1 encM (i := 5) (j := 0) (el := y) rfl s23 rfl rfl rfl rfl rfl (by first | omega | (simp only [List.length_append, List.length_cons, List.length_nil]; omega)) (by first | omega | (simp only [List.length_append, List.length_cons, List.length_nil]; omega))) ?_
      rintro _ _ ⟨A40, q40, rfl, rfl⟩
      refine ⟨oks_cons (oks_at 1 rfl) (oks_cons (oks_at 6 rfl) (oks_cons (oks_at 7 rfl) (oks_nil _))), ?_⟩
      refine FlowS.free rfl rfl rfl rfl (Rd.field rfl rfl fl29_1) ?_
      refine FlowS.up (Γ' := [row 33 3 (some ⟨b39, 0, none⟩) 1 1 [.int .i64 y.f, .int .i64 y.t, .int .i64 y.n], box b1 [.slice A p.length a, .slice B x.length b] 25, box b2 [.slice none 0 0, .slice none 0 0] 29, box b3 [.slice An P.length qn, .slice A40 ((Q ++ [y]).length) q40] 29, rows Ky.cells 37 4 An qn P, rows Ms.cells 33 3 A40 q40 (Q ++ [y]), ros Ky.cells A p, ros Ms.cells B x]) rfl rfl rfl (Up.store (i := 3) rfl rfl rfl c23 rfl rfl (box_takes1 rfl)) (oks_cons (oks_at 1 rfl) (oks_cons (oks_at 6 rfl) (oks_cons (oks_at 7 rfl) (oks_nil _)))) ?_
      refine FlowS.fin ?_
      refine To.as [row 33 3 (some ⟨b39, 0, none⟩) 1 1 [.int .i64 y.f, .int .i64 y.t, .int .i64 y.n], box b1 [.slice A p.length a, .slice B x.length b] 25, box b2 [.slice none 0 0, .slice none 0 0] 29, box b3 [.slice An P.length qn, .slice A40 ((Q ++ [y]).length) q40] 29, rows Ky.cells 37 4 An qn P, rows Ms.cells 33 3 A40 q40 (Q ++ [y]), ros Ky.cells A p, ros Ms.cells B x] rfl ?_
      refine To.blockN ?_
      refine To.thenN ?_
      refine To.reg ?_
      refine To.rd rfl rfl rfl (Rd.move rfl rfl) ?_
      refine To.rd rfl rfl rfl (Rd.sub64 rfl rfl rfl (by omega)) ?_
      refine To.rd rfl rfl rfl (Rd.assign rfl rfl) ?_
      refine To.nil ?_
      refine To.sub [(1, .pointer (some ⟨b1, 0, none⟩)), (2, .pointer (some ⟨b2, 0, none⟩)), (3, .pointer (some ⟨b3, 0, none⟩)), (5, .int .i64 ((((m : Nat) : Int) - 1) - 1)), (29, .bool (decide (0 ≤ (((m : Nat) : Int) - 1))))] ⟨rfl, rfl, rfl, rfl, rfl, trivial⟩ ?_
      refine To.thenN ?_
      refine To.sub [(1, .pointer (some ⟨b1, 0, none⟩)), (2, .pointer (some ⟨b2, 0, none⟩)), (3, .pointer (some ⟨b3, 0, none⟩)), (5, .int .i64 ((((m - 1) : Nat) : Int) - 1))] ⟨rfl, rfl, rfl, (congrArg (fun n : Int => some (Value.int .i64 n)) (by omega)), trivial⟩ ?_
      refine To.only [1, 1, 1, 1, 1, 1, 1] rfl ?_
      refine To.again (2 * (m - 1)) (by omega) ⟨A40, q40, (Q ++ [y]), m - 1, rfl, rfl, rfl, (by omega), (by rw [hQ, show x.drop (m - 1) = y :: x.drop m from by rw [drop_of_get hy, show m - 1 + 1 = m from by omega], List.reverse_cons])⟩
    ·
      refine To.exit ?_
      refine To.thenX ?_
      refine To.thenX ?_
      refine To.blockX ?_
      refine To.thenN ?_
      refine To.seq ?_
      refine To.reg ?_
      refine To.rd rfl rfl rfl (Rd.loadS (i := 2) rfl rfl r29 rfl box_whole rfl) ?_
      refine To.up rfl rfl (Up.storeS (i := 1) rfl rfl rfl r29 rfl rfl rfl (box_takesAll rfl)) ?_
      refine To.nil ?_
      refine To.thenN ?_
      refine To.ret ?_
      refine To.endC [3, 3] rfl (.inl rfl) Try.results8 rfl (i := 1) rfl r29 rfl ?_
      obtain rfl : k = 0 := by omega
      obtain rfl : m = 0 := by omega
      rw [List.drop_zero] at hP hQ
      subst hP hQ
      exact ⟨_, _, _, _, rfl, rfl⟩
end Go.Proofs.Ytnghonabedcacaa

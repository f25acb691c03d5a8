/- The orders of interventions. Own text (walks printed by sx.py). -/
import Derived.Test.YtnghonabedcacaaI4
namespace Go.Proofs.Ytnghonabedcacaa
open Go.RowKit Go.Flow Go.Mem Go.Sep
/-- The order, of lists that are in order. -/
def lessV (P : List Ky) (X : List Ms) (Q : List Ky) (Y : List Ms) : Int := orL [cmpI ((P.length + X.length : Nat) : Int) ((Q.length + Y.length : Nat) : Int), cmpBy Ky.cmp P Q, cmpBy Ms.cmp X Y]
theorem lessV_eq (P : List Ky) (X : List Ms) (Q : List Ky) (Y : List Ms) : lessV P X Q Y = if P.length + X.length = Q.length + Y.length then (if cmpBy Ky.cmp P Q = 0 then cmpBy Ms.cmp X Y else cmpBy Ky.cmp P Q) else cmpI ((P.length + X.length : Nat) : Int) ((Q.length + Y.length : Nat) : Int) := by
  simp only [lessV, orL, or_id, cmpI_zero]
  by_cases h : P.length + X.length = Q.length + Y.length
  · rw [if_pos h, if_pos (by omega)]
  · rw [if_neg h, if_neg (by omega)]
set_option maxHeartbeats 2000000 in
set_option maxRecDepth 100000 in
theorem less_fn (A B A2 B2 : Option Addr) (ca cb ca2 cb2 : Nat) (p q : List Ky) (x y : List Ms) (hp : p.length ≤ 12) (hx : x.length ≤ 12) (hq : q.length ≤ 12) (hy : y.length ≤ 12) :
    Does Try.prog 7 [.agg #[.slice A p.length ca, .slice B x.length cb], .agg #[.slice A2 q.length ca2, .slice B2 y.length cb2]] [ros Ky.cells A p, ros Ms.cells B x, ros Ky.cells A2 q, ros Ms.cells B2 y] (fun v _ => v = .bool (decide (lessV (isort Ky.cmp p) (isort Ms.cmp x) (isort Ky.cmp q) (isort Ms.cmp y) < 0))) := by
  refine Does.enter Try.func7 rfl Try.ntmps7 rfl (fun w0 => ?_)
  refine To.seq ?_
  refine To.reg ?_
  refine To.boxed rfl rfl rfl rfl rfl rfl (fun b2 => ?_)
  refine To.boxed rfl rfl rfl rfl rfl rfl (fun b3 => ?_)
  refine To.rd rfl rfl rfl (Rd.assign rfl rfl) ?_
  refine To.nil ?_
  refine To.thenN ?_
  refine To.seq ?_
  refine To.reg ?_
  refine To.rd rfl rfl rfl (Rd.assign rfl rfl) ?_
  refine To.nil ?_
  refine To.thenN ?_
  refine To.seq ?_
  refine To.reg ?_
  refine To.rd rfl rfl rfl (Rd.assign rfl rfl) ?_
  refine To.nil ?_
  refine To.thenN ?_
  refine To.seq ?_
  refine To.flow [box b3 [.slice A2 q.length ca2, .slice B2 y.length cb2] 29, box b2 [.slice A p.length ca, .slice B x.length cb] 29, ros Ky.cells A p, ros Ms.cells B x, ros Ky.cells A2 q, ros Ms.cells B2 y] [⟨0, [], 0⟩, ⟨3, [], 0⟩, ⟨7, [], 0⟩, ⟨10, [], 0⟩, ⟨15, [], 0⟩, ⟨16, [], 0⟩, ⟨19, [], 0⟩, ⟨20, [], 0⟩, ⟨24, [], 0⟩, ⟨25, [], 0⟩, ⟨28, [], 0⟩, ⟨29, [], 0⟩, ⟨1, [], 1⟩, ⟨2, [], 0⟩, ⟨4, [], 1⟩, ⟨5, [], 0⟩, ⟨6, [], 0⟩, ⟨8, [], 1⟩, ⟨9, [], 0⟩, ⟨11, [], 1⟩, ⟨12, [], 0⟩, ⟨13, [], 0⟩, ⟨14, [], 3⟩, ⟨17, [], 1⟩, ⟨18, [], 4⟩, ⟨21, [], 1⟩, ⟨22, [18], 4⟩, ⟨23, [18, 22], 3⟩, ⟨26, [], 1⟩, ⟨27, [18, 22], 4⟩, ⟨30, [], 1⟩, ⟨31, [18, 22, 27], 4⟩, ⟨32, [18, 22, 27, 31], 3⟩, ⟨33, [18, 22, 27, 31], 2⟩, ⟨34, [18, 22, 27, 31, 33], 3⟩, ⟨35, [18, 22, 27, 31, 33], 0⟩, ⟨36, [18, 22, 27, 31, 33], 0⟩] mixed (by kernel_rfl) (oks_cons (oks_at 0 rfl) (oks_cons (oks_at 1 rfl) (oks_cons (oks_at 2 rfl) (oks_cons (oks_at 3 rfl) (oks_cons (oks_at 4 rfl) (oks_cons (oks_at 5 rfl) (oks_nil _))))))) ?_
  refine FlowS.free rfl rfl rfl rfl (Rd.field rfl rfl fl29_0) ?_
  refine FlowS.free rfl rfl rfl rfl (Rd.field rfl rfl fl29_1) ?_
  refine FlowS.free rfl rfl rfl rfl (Rd.field rfl rfl fl29_0) ?_
  refine FlowS.free rfl rfl rfl rfl (Rd.field rfl rfl fl29_1) ?_
  refine FlowS.free rfl rfl rfl rfl (Rd.move rfl rfl) ?_
  refine FlowS.free rfl rfl rfl rfl (Rd.field rfl rfl fl29_0) ?_
  refine FlowS.free rfl rfl rfl rfl (Rd.move rfl rfl) ?_
  refine FlowS.free rfl rfl rfl rfl (Rd.field rfl rfl fl29_0) ?_
  refine FlowS.free rfl rfl rfl rfl (Rd.move rfl rfl) ?_
  refine FlowS.free rfl rfl rfl rfl (Rd.field rfl rfl fl29_1) ?_
  refine FlowS.free rfl rfl rfl rfl (Rd.move rfl rfl) ?_
  refine FlowS.free rfl rfl rfl rfl (Rd.field rfl rfl fl29_1) ?_
  refine FlowS.rd rfl rfl rfl rfl (Rd.load (i := 1) rfl rfl c22 rfl (box_gives1 rfl)) ?_
  refine FlowS.free rfl rfl rfl rfl (Rd.len rfl rfl Try.underlying22) ?_
  refine FlowS.rd rfl rfl rfl rfl (Rd.load (i := 1) rfl rfl c23 rfl (box_gives1 rfl)) ?_
  refine FlowS.free rfl rfl rfl rfl (Rd.len rfl rfl Try.underlying23) ?_
  refine FlowS.free rfl rfl rfl rfl (Rd.addN (a := p.length) (b := x.length) rfl rfl rfl (by omega)) ?_
  refine FlowS.rd rfl rfl rfl rfl (Rd.load (i := 0) rfl rfl c22 rfl (box_gives1 rfl)) ?_
  refine FlowS.free rfl rfl rfl rfl (Rd.len rfl rfl Try.underlying22) ?_
  refine FlowS.rd rfl rfl rfl rfl (Rd.load (i := 0) rfl rfl c23 rfl (box_gives1 rfl)) ?_
  refine FlowS.free rfl rfl rfl rfl (Rd.len rfl rfl Try.underlying23) ?_
  refine FlowS.free rfl rfl rfl rfl (Rd.addN (a := q.length) (b := y.length) rfl rfl rfl (by omega)) ?_
  refine FlowS.callQ rfl rfl rfl rfl (Ent.fn rfl rfl ca25) (cmp25 ((p.length + x.length : Nat) : Int) ((q.length + y.length : Nat) : Int)) rfl (oks_nil _) ?_
  refine FlowS.rd rfl rfl rfl rfl (Rd.load (i := 1) rfl rfl c22 rfl (box_gives1 rfl)) ?_
  refine FlowS.callM rfl rfl rfl rfl rfl (Ent.func (first := []) (captured := []) rfl rfl rfl ca18) (srtKey_fn A ca p (by omega)) rfl (oks_cons (oks_at 2 rfl) (oks_nil _)) ?_
  rintro _ _ ⟨SK, rK, rfl, rfl⟩
  refine ⟨rfl, ?_⟩
  refine FlowS.rd rfl rfl rfl rfl (Rd.load (i := 0) rfl rfl c22 rfl (box_gives1 rfl)) ?_
  refine FlowS.callM rfl rfl rfl rfl rfl (Ent.func (first := []) (captured := []) rfl rfl rfl ca18) (srtKey_fn A2 ca2 q (by omega)) rfl (oks_cons (oks_at 5 rfl) (oks_nil _)) ?_
  rintro _ _ ⟨SK_2, rK_2, rfl, rfl⟩
  refine ⟨rfl, ?_⟩
  refine FlowS.callQ rfl rfl rfl rfl (Ent.fn rfl rfl ca26) (cfunKey_fn SK SK_2 rK rK_2 (isort Ky.cmp p) (isort Ky.cmp q) (by rw [isort_len]; omega)) rfl (oks_cons (oks_row 1 rfl) (oks_cons (oks_row 0 rfl) (oks_nil _))) ?_
  refine FlowS.rd rfl rfl rfl rfl (Rd.load (i := 1) rfl rfl c23 rfl (box_gives1 rfl)) ?_
  refine FlowS.callM rfl rfl rfl rfl rfl (Ent.func (first := []) (captured := []) rfl rfl rfl ca21) (srtMessage_fn B cb x (by omega)) rfl (oks_cons (oks_at 5 rfl) (oks_nil _)) ?_
  rintro _ _ ⟨SM, rM, rfl, rfl⟩
  refine ⟨rfl, ?_⟩
  refine FlowS.rd rfl rfl rfl rfl (Rd.load (i := 0) rfl rfl c23 rfl (box_gives1 rfl)) ?_
  refine FlowS.callM rfl rfl rfl rfl rfl (Ent.func (first := []) (captured := []) rfl rfl rfl ca21) (srtMessage_fn B2 cb2 y (by omega)) rfl (oks_cons (oks_at 8 rfl) (oks_nil _)) ?_
  rintro _ _ ⟨SM_2, rM_2, rfl, rfl⟩
  refine ⟨rfl, ?_⟩
  refine FlowS.callQ rfl rfl rfl rfl (Ent.fn rfl rfl ca27) (cfunMessage_fn SM SM_2 rM rM_2 (isort Ms.cmp x) (isort Ms.cmp y) (by rw [isort_len]; omega)) rfl (oks_cons (oks_row 1 rfl) (oks_cons (oks_row 0 rfl) (oks_nil _))) ?_
  refine FlowS.mk rfl rfl rfl rfl rfl (Mk.sliceN (us := [.int .i64 (cmpI ((p.length + x.length : Nat) : Int) ((q.length + y.length : Nat) : Int)), .int .i64 (cmpBy Ky.cmp (isort Ky.cmp p) (isort Ky.cmp q)), .int .i64 (cmpBy Ms.cmp (isort Ms.cmp x) (isort Ms.cmp y))]) rfl s74 rfl rfl rfl rfl rfl rfl) ?_
  rintro _ _ ⟨b40, rfl, rfl⟩
  refine FlowS.callQ rfl rfl rfl rfl (Ent.fn rfl rfl ca24) (or_fn (some ⟨b40, 0, none⟩) 3 [cmpI ((p.length + x.length : Nat) : Int) ((q.length + y.length : Nat) : Int), cmpBy Ky.cmp (isort Ky.cmp p) (isort Ky.cmp q), cmpBy Ms.cmp (isort Ms.cmp x) (isort Ms.cmp y)] (show 3 ≤ 1000000000000 by decide)) rfl (oks_cons (oks_row 0 rfl) (oks_nil _)) ?_
  refine FlowS.free rfl rfl rfl rfl (Rd.lss rfl rfl rfl) ?_
  refine FlowS.free rfl rfl rfl rfl (Rd.assign rfl rfl) ?_
  refine FlowS.fin ?_
  refine To.as [row 3 1 (some ⟨b40, 0, none⟩) 3 3 [.int .i64 (cmpI ((p.length + x.length : Nat) : Int) ((q.length + y.length : Nat) : Int)), .int .i64 (cmpBy Ky.cmp (isort Ky.cmp p) (isort Ky.cmp q)), .int .i64 (cmpBy Ms.cmp (isort Ms.cmp x) (isort Ms.cmp y))], rows Ms.cells 33 3 SM_2 rM_2 (isort Ms.cmp y), rows Ms.cells 33 3 SM rM (isort Ms.cmp x), rows Ky.cells 37 4 SK_2 rK_2 (isort Ky.cmp q), rows Ky.cells 37 4 SK rK (isort Ky.cmp p), box b3 [.slice A2 q.length ca2, .slice B2 y.length cb2] 29, box b2 [.slice A p.length ca, .slice B x.length cb] 29, ros Ky.cells A p, ros Ms.cells B x, ros Ky.cells A2 q, ros Ms.cells B2 y] rfl ?_
  refine To.sub [(0, .agg #[.slice A p.length ca, .slice B x.length cb]), (1, .agg #[.slice A2 q.length ca2, .slice B2 y.length cb2]), (2, .pointer (some ⟨b2, 0, none⟩)), (3, .pointer (some ⟨b3, 0, none⟩)), (4, .bool (decide ((orL [cmpI ((p.length + x.length : Nat) : Int) ((q.length + y.length : Nat) : Int), cmpBy Ky.cmp (isort Ky.cmp p) (isort Ky.cmp q), cmpBy Ms.cmp (isort Ms.cmp x) (isort Ms.cmp y)]) < 0))), (5, .func (.func 18) #[] #[]), (6, .func (.func 21) #[] #[])] ⟨rfl, rfl, rfl, rfl, rfl, rfl, rfl, trivial⟩ ?_
  refine To.thenN ?_
  refine To.ret ?_
  refine To.end1 (.inl rfl) Try.results7 rfl ?_
  unfold lessV; rw [isort_len, isort_len, isort_len, isort_len]
set_option maxHeartbeats 2000000 in
set_option maxRecDepth 100000 in
theorem rless_fn (A B A2 B2 : Option Addr) (ca cb ca2 cb2 : Nat) (p q : List Ky) (x y : List Ms) (hp : p.length ≤ 12) (hx : x.length ≤ 12) (hq : q.length ≤ 12) (hy : y.length ≤ 12) :
    Does Try.prog 9 [.agg #[.slice A p.length ca, .slice B x.length cb], .agg #[.slice A2 q.length ca2, .slice B2 y.length cb2]] [ros Ky.cells A p, ros Ms.cells B x, ros Ky.cells A2 q, ros Ms.cells B2 y] (fun v _ => v = .bool (decide (lessV (sortU Ky.cmp p) (sortU Ms.cmp x) (sortU Ky.cmp q) (sortU Ms.cmp y) < 0))) := by
  refine Does.enter Try.func9 rfl Try.ntmps9 rfl (fun w0 => ?_)
  refine To.seq ?_
  refine To.reg ?_
  refine To.boxed rfl rfl rfl rfl rfl rfl (fun b2 => ?_)
  refine To.boxed rfl rfl rfl rfl rfl rfl (fun b3 => ?_)
  refine To.rd rfl rfl rfl (Rd.assign rfl rfl) ?_
  refine To.nil ?_
  refine To.thenN ?_
  refine To.seq ?_
  refine To.flow [box b3 [.slice A2 q.length ca2, .slice B2 y.length cb2] 25, box b2 [.slice A p.length ca, .slice B x.length cb] 25, ros Ky.cells A p, ros Ms.cells B x, ros Ky.cells A2 q, ros Ms.cells B2 y] [⟨0, [], 0⟩, ⟨3, [], 0⟩, ⟨1, [], 1⟩, ⟨2, [], 4⟩, ⟨4, [], 1⟩, ⟨5, [2], 4⟩, ⟨6, [2, 5], 0⟩, ⟨7, [2, 5], 0⟩] mixed (by kernel_rfl) (oks_cons (oks_at 0 rfl) (oks_cons (oks_at 1 rfl) (oks_cons (oks_at 2 rfl) (oks_cons (oks_at 3 rfl) (oks_cons (oks_at 4 rfl) (oks_cons (oks_at 5 rfl) (oks_nil _))))))) ?_
  refine FlowS.free rfl rfl rfl rfl (Rd.field rfl rfl fl25_0) ?_
  refine FlowS.free rfl rfl rfl rfl (Rd.field rfl rfl fl25_0) ?_
  refine FlowS.rd rfl rfl rfl rfl (Rd.load (i := 1) rfl rfl c22 rfl (box_gives1 rfl)) ?_
  refine FlowS.callM rfl rfl rfl rfl rfl (Ent.fn rfl rfl ca16) (sortKeys_fn A ca p (by omega)) rfl (oks_cons (oks_at 2 rfl) (oks_nil _)) ?_
  rintro _ _ ⟨BK, qK, rfl, rfl⟩
  refine ⟨rfl, ?_⟩
  refine FlowS.rd rfl rfl rfl rfl (Rd.load (i := 0) rfl rfl c22 rfl (box_gives1 rfl)) ?_
  refine FlowS.callM rfl rfl rfl rfl rfl (Ent.fn rfl rfl ca16) (sortKeys_fn A2 ca2 q (by omega)) rfl (oks_cons (oks_at 5 rfl) (oks_nil _)) ?_
  rintro _ _ ⟨BK_2, qK_2, rfl, rfl⟩
  refine ⟨rfl, ?_⟩
  refine FlowS.free rfl rfl rfl rfl (Rd.assign rfl rfl) ?_
  refine FlowS.free rfl rfl rfl rfl (Rd.assign rfl rfl) ?_
  refine FlowS.fin ?_
  refine To.as [rows Ky.cells 37 4 BK_2 qK_2 (sortU Ky.cmp q), rows Ky.cells 37 4 BK qK (sortU Ky.cmp p), box b3 [.slice A2 q.length ca2, .slice B2 y.length cb2] 25, box b2 [.slice A p.length ca, .slice B x.length cb] 25, ros Ky.cells A p, ros Ms.cells B x, ros Ky.cells A2 q, ros Ms.cells B2 y] rfl ?_
  refine To.thenN ?_
  refine To.seq ?_
  refine To.flow [rows Ky.cells 37 4 BK_2 qK_2 (sortU Ky.cmp q), rows Ky.cells 37 4 BK qK (sortU Ky.cmp p), box b3 [.slice A2 q.length ca2, .slice B2 y.length cb2] 25, box b2 [.slice A p.length ca, .slice B x.length cb] 25, ros Ky.cells A p, ros Ms.cells B x, ros Ky.cells A2 q, ros Ms.cells B2 y] [⟨0, [], 0⟩, ⟨3, [], 0⟩, ⟨1, [], 1⟩, ⟨2, [], 4⟩, ⟨4, [], 1⟩, ⟨5, [2], 4⟩, ⟨6, [2, 5], 0⟩, ⟨7, [2, 5], 0⟩] mixed (by kernel_rfl) (oks_cons (oks_at 0 rfl) (oks_cons (oks_at 1 rfl) (oks_cons (oks_at 2 rfl) (oks_cons (oks_at 3 rfl) (oks_cons (oks_at 4 rfl) (oks_cons (oks_at 5 rfl) (oks_cons (oks_at 6 rfl) (oks_cons (oks_at 7 rfl) (oks_nil _))))))))) ?_
  refine FlowS.free rfl rfl rfl rfl (Rd.field rfl rfl fl25_1) ?_
  refine FlowS.free rfl rfl rfl rfl (Rd.field rfl rfl fl25_1) ?_
  refine FlowS.rd rfl rfl rfl rfl (Rd.load (i := 3) rfl rfl c23 rfl (box_gives1 rfl)) ?_
  refine FlowS.callM rfl rfl rfl rfl rfl (Ent.fn rfl rfl ca17) (sortMessages_fn B cb x (by omega)) rfl (oks_cons (oks_at 5 rfl) (oks_nil _)) ?_
  rintro _ _ ⟨BM, qM, rfl, rfl⟩
  refine ⟨rfl, ?_⟩
  refine FlowS.rd rfl rfl rfl rfl (Rd.load (i := 2) rfl rfl c23 rfl (box_gives1 rfl)) ?_
  refine FlowS.callM rfl rfl rfl rfl rfl (Ent.fn rfl rfl ca17) (sortMessages_fn B2 cb2 y (by omega)) rfl (oks_cons (oks_at 8 rfl) (oks_nil _)) ?_
  rintro _ _ ⟨BM_2, qM_2, rfl, rfl⟩
  refine ⟨rfl, ?_⟩
  refine FlowS.free rfl rfl rfl rfl (Rd.assign rfl rfl) ?_
  refine FlowS.free rfl rfl rfl rfl (Rd.assign rfl rfl) ?_
  refine FlowS.fin ?_
  refine To.as [rows Ms.cells 33 3 BM_2 qM_2 (sortU Ms.cmp y), rows Ms.cells 33 3 BM qM (sortU Ms.cmp x), rows Ky.cells 37 4 BK_2 qK_2 (sortU Ky.cmp q), rows Ky.cells 37 4 BK qK (sortU Ky.cmp p), box b3 [.slice A2 q.length ca2, .slice B2 y.length cb2] 25, box b2 [.slice A p.length ca, .slice B x.length cb] 25, ros Ky.cells A p, ros Ms.cells B x, ros Ky.cells A2 q, ros Ms.cells B2 y] rfl ?_
  refine To.thenN ?_
  refine To.seq ?_
  refine To.seq ?_
  have hlP := sortU_len (c := Ky.cmp) p
  generalize hNP : sortU Ky.cmp p = P at *
  have hlQ := sortU_len (c := Ky.cmp) q
  generalize hNQ : sortU Ky.cmp q = Q at *
  have hlX := sortU_len (c := Ms.cmp) x
  generalize hNX : sortU Ms.cmp x = X at *
  have hlY := sortU_len (c := Ms.cmp) y
  generalize hNY : sortU Ms.cmp y = Y at *
  refine To.only [3, 2, 1, 0] rfl ?_
  refine To.reg ?_
  refine To.rd rfl rfl rfl (Rd.move rfl rfl) ?_
  refine To.rd rfl rfl rfl (Rd.len rfl rfl Try.underlying22) ?_
  refine To.rd rfl rfl rfl (Rd.move rfl rfl) ?_
  refine To.rd rfl rfl rfl (Rd.len rfl rfl Try.underlying23) ?_
  refine To.rd rfl rfl rfl (Rd.addN (a := P.length) (b := X.length) rfl rfl rfl (by omega)) ?_
  refine To.rd rfl rfl rfl (Rd.move rfl rfl) ?_
  refine To.rd rfl rfl rfl (Rd.len rfl rfl Try.underlying22) ?_
  refine To.rd rfl rfl rfl (Rd.move rfl rfl) ?_
  refine To.rd rfl rfl rfl (Rd.len rfl rfl Try.underlying23) ?_
  refine To.rd rfl rfl rfl (Rd.addN (a := Q.length) (b := Y.length) rfl rfl rfl (by omega)) ?_
  refine To.rd rfl rfl rfl (Rd.neq rfl rfl rfl) ?_
  refine To.nil ?_
  refine To.sub [(0, .agg #[.slice A p.length ca, .slice B x.length cb]), (1, .agg #[.slice A2 q.length ca2, .slice B2 y.length cb2]), (2, .pointer (some ⟨b2, 0, none⟩)), (3, .pointer (some ⟨b3, 0, none⟩)), (4, .bool false), (5, .slice BK P.length qK), (6, .slice BK_2 Q.length qK_2), (7, .slice BM X.length qM), (8, .slice BM_2 Y.length qM_2), (33, .bool (decide (((P.length + X.length : Nat) : Int) ≠ ((Q.length + Y.length : Nat) : Int))))] ⟨rfl, rfl, rfl, rfl, rfl, rfl, rfl, rfl, rfl, rfl, trivial⟩ ?_
  refine To.thenN ?_
  refine To.condP rfl (fun c33 => ?_) (fun c33 => ?_)
  ·
    refine To.seq ?_
    refine To.reg ?_
    refine To.rd rfl rfl rfl (Rd.move rfl rfl) ?_
    refine To.rd rfl rfl rfl (Rd.len rfl rfl Try.underlying22) ?_
    refine To.rd rfl rfl rfl (Rd.move rfl rfl) ?_
    refine To.rd rfl rfl rfl (Rd.len rfl rfl Try.underlying23) ?_
    refine To.rd rfl rfl rfl (Rd.addN (a := P.length) (b := X.length) rfl rfl rfl (by omega)) ?_
    refine To.rd rfl rfl rfl (Rd.move rfl rfl) ?_
    refine To.rd rfl rfl rfl (Rd.len rfl rfl Try.underlying22) ?_
    refine To.rd rfl rfl rfl (Rd.move rfl rfl) ?_
    refine To.rd rfl rfl rfl (Rd.len rfl rfl Try.underlying23) ?_
    refine To.rd rfl rfl rfl (Rd.addN (a := Q.length) (b := Y.length) rfl rfl rfl (by omega)) ?_
    refine To.rd rfl rfl rfl (Rd.lss rfl rfl rfl) ?_
    refine To.rd rfl rfl rfl (Rd.assign rfl rfl) ?_
    refine To.nil ?_
    refine To.thenN ?_
    refine To.ret ?_
    refine To.thenR ?_
    refine To.end1 (.inl rfl) Try.results9 rfl ?_
    refine congrArg Value.bool (decide_eq_decide.2 ?_)
    rw [lessV_eq]
    rw [if_neg (by omega), cmpI_neg]
  ·
    refine To.skip ?_
    refine To.thenN ?_
    refine To.seq ?_
    refine To.seq ?_
    refine To.reg ?_
    refine To.rd rfl rfl rfl (Rd.assign rfl rfl) ?_
    refine To.nil ?_
    refine To.thenN ?_
    refine To.block ?_
    refine To.sub [(5, .slice BK P.length qK), (6, .slice BK_2 Q.length qK_2), (7, .slice BM X.length qM), (8, .slice BM_2 Y.length qM_2), (9, .int .i64 ((0 : Nat) : Int))] ⟨rfl, rfl, rfl, rfl, rfl, trivial⟩ ?_
    refine To.only [0, 0, 0, 0] rfl ?_
    refine To.loop (fun mz ρ Γ => ∃ (i : Nat), ρ = [(5, .slice BK P.length qK), (6, .slice BK_2 Q.length qK_2), (7, .slice BM X.length qM), (8, .slice BM_2 Y.length qM_2), (9, .int .i64 ((i : Nat) : Int))] ∧ Γ = [rows Ky.cells 37 4 BK qK P, rows Ky.cells 37 4 BK_2 qK_2 Q, rows Ms.cells 33 3 BM qM X, rows Ms.cells 33 3 BM_2 qM_2 Y] ∧ mz = P.length - i ∧ (i ≤ P.length ∧ i ≤ Q.length) ∧ (cmpBy Ky.cmp P Q = cmpBy Ky.cmp (P.drop i) (Q.drop i))) (P.length - 0) ⟨0, rfl, rfl, rfl, ⟨Nat.zero_le _, Nat.zero_le _⟩, rfl⟩ ?_
    rintro mz _ _ ⟨i, rfl, rfl, rfl, hi, hIi⟩
    refine To.seq ?_
    refine To.seq ?_
    refine To.reg ?_
    refine To.rd rfl rfl rfl (Rd.move rfl rfl) ?_
    refine To.rd rfl rfl rfl (Rd.move rfl rfl) ?_
    refine To.rd rfl rfl rfl (Rd.len rfl rfl Try.underlying22) ?_
    refine To.rd rfl rfl rfl (Rd.lss rfl rfl rfl) ?_
    refine To.rdP rfl rfl rfl (Rd.move rfl rfl) (fun g49 => ?_) (fun g49 => ?_)
    ·
      refine To.rd rfl rfl rfl (Rd.move rfl rfl) ?_
      refine To.rd rfl rfl rfl (Rd.move rfl rfl) ?_
      refine To.rd rfl rfl rfl (Rd.len rfl rfl Try.underlying22) ?_
      refine To.rd rfl rfl rfl (Rd.lss rfl rfl rfl) ?_
      refine To.rd rfl rfl rfl (Rd.pickT rfl rfl rfl) ?_
      refine To.nil ?_
      refine To.thenN ?_
      refine To.condP rfl (fun c54 => ?_) (fun c54 => ?_)
      ·
        refine To.skip ?_
        refine To.thenN ?_
        refine To.seq ?_
        refine To.block ?_
        refine To.seq ?_
        obtain ⟨e, he⟩ : ∃ z0, P[i]? = some z0 := ⟨P[i]'(by omega), List.getElem?_eq_getElem _⟩
        obtain ⟨f, hf⟩ : ∃ z0, Q[i]? = some z0 := ⟨Q[i]'(by omega), List.getElem?_eq_getElem _⟩
        refine To.flow [] [⟨0, [], 0⟩, ⟨1, [], 0⟩, ⟨4, [], 0⟩, ⟨5, [], 0⟩, ⟨2, [], 1⟩, ⟨3, [], 1⟩, ⟨6, [], 1⟩, ⟨7, [], 1⟩, ⟨8, [], 0⟩] mixed (by kernel_rfl) (oks_nil _) ?_
        refine FlowS.free rfl rfl rfl rfl (Rd.move rfl rfl) ?_
        refine FlowS.free rfl rfl rfl rfl (Rd.move rfl rfl) ?_
        refine FlowS.free rfl rfl rfl rfl (Rd.move rfl rfl) ?_
        refine FlowS.free rfl rfl rfl rfl (Rd.move rfl rfl) ?_
        refine FlowS.rd rfl rfl rfl rfl (Rd.indexRows (i := 0) (j := i) rfl rfl rfl s22 rfl he) ?_
        refine FlowS.rd rfl rfl rfl rfl (Rd.loadS (i := 0) rfl rfl r37 rfl (rows_gives encK he) (encK.len _)) ?_
        refine FlowS.rd rfl rfl rfl rfl (Rd.indexRows (i := 1) (j := i) rfl rfl rfl s22 rfl hf) ?_
        refine FlowS.rd rfl rfl rfl rfl (Rd.loadS (i := 1) rfl rfl r37 rfl (rows_gives encK hf) (encK.len _)) ?_
        refine FlowS.free rfl rfl rfl rfl (Rd.as (v' := .bool (decide (e ≠ f))) (congrArg Value.bool (decide_eq_decide.2 (not_congr Ky.eq_iff))) (Rd.neqF (ks := [.u8, .i64, .i64, .i64]) (xs := [e.k, e.a, e.b, e.n]) (ys := [f.k, f.a, f.b, f.n]) flatK rfl rfl rfl rfl rfl)) ?_
        refine FlowS.fin ?_
        refine To.as [rows Ky.cells 37 4 BK qK P, rows Ky.cells 37 4 BK_2 qK_2 Q, rows Ms.cells 33 3 BM qM X, rows Ms.cells 33 3 BM_2 qM_2 Y] rfl ?_
        refine To.sub [(5, .slice BK P.length qK), (6, .slice BK_2 Q.length qK_2), (7, .slice BM X.length qM), (8, .slice BM_2 Y.length qM_2), (9, .int .i64 ((i : Nat) : Int)), (54, .bool (decide (((i : Nat) : Int) < ((Q.length : Nat) : Int)))), (65, .bool (decide (e ≠ f)))] ⟨rfl, rfl, rfl, rfl, rfl, rfl, rfl, trivial⟩ ?_
        refine To.thenN ?_
        refine To.condP rfl (fun c65 => ?_) (fun c65 => ?_)
        ·
          refine To.seq ?_
          refine To.flow [] [⟨0, [], 0⟩, ⟨1, [], 0⟩, ⟨4, [], 0⟩, ⟨5, [], 0⟩, ⟨2, [], 1⟩, ⟨3, [], 1⟩, ⟨6, [], 1⟩, ⟨7, [], 1⟩, ⟨8, [], 3⟩, ⟨9, [], 0⟩] mixed (by kernel_rfl) (oks_nil _) ?_
          refine FlowS.free rfl rfl rfl rfl (Rd.move rfl rfl) ?_
          refine FlowS.free rfl rfl rfl rfl (Rd.move rfl rfl) ?_
          refine FlowS.free rfl rfl rfl rfl (Rd.move rfl rfl) ?_
          refine FlowS.free rfl rfl rfl rfl (Rd.move rfl rfl) ?_
          refine FlowS.rd rfl rfl rfl rfl (Rd.indexRows (i := 0) (j := i) rfl rfl rfl s22 rfl he) ?_
          refine FlowS.rd rfl rfl rfl rfl (Rd.loadS (i := 0) rfl rfl r37 rfl (rows_gives encK he) (encK.len _)) ?_
          refine FlowS.rd rfl rfl rfl rfl (Rd.indexRows (i := 1) (j := i) rfl rfl rfl s22 rfl hf) ?_
          refine FlowS.rd rfl rfl rfl rfl (Rd.loadS (i := 1) rfl rfl r37 rfl (rows_gives encK hf) (encK.len _)) ?_
          refine FlowS.callQ rfl rfl rfl rfl (Ent.fn rfl rfl ca28) (rlessK_fn e f) rfl (oks_nil _) ?_
          refine FlowS.free rfl rfl rfl rfl (Rd.assign rfl rfl) ?_
          refine FlowS.fin ?_
          refine To.as [rows Ky.cells 37 4 BK qK P, rows Ky.cells 37 4 BK_2 qK_2 Q, rows Ms.cells 33 3 BM qM X, rows Ms.cells 33 3 BM_2 qM_2 Y] rfl ?_
          refine To.thenN ?_
          refine To.ret ?_
          refine To.blockR ?_
          refine To.thenR ?_
          refine To.thenR ?_
          refine To.blockR ?_
          refine To.thenR ?_
          refine To.end1 (.inl rfl) Try.results9 rfl ?_
          have hsum : P.length + X.length = Q.length + Y.length := by omega
          refine congrArg Value.bool (decide_eq_decide.2 ?_)
          rw [lessV_eq]
          have hne : e.cmp f ≠ 0 := fun h0 => c65 (Ky.cmp_zero _ _ h0)
          have hc : cmpBy Ky.cmp P Q = e.cmp f := by rw [hIi, cmpBy_step he hf, if_neg hne]
          rw [if_pos hsum, hc, if_neg hne]
        ·
          refine To.skip ?_
          refine To.blockN ?_
          refine To.thenN ?_
          refine To.reg ?_
          refine To.rd rfl rfl rfl (Rd.move rfl rfl) ?_
          refine To.rd rfl rfl rfl (Rd.inc rfl rfl rfl (by omega)) ?_
          refine To.rd rfl rfl rfl (Rd.assign rfl rfl) ?_
          refine To.nil ?_
          refine To.thenN ?_
          refine To.sub [(5, .slice BK P.length qK), (6, .slice BK_2 Q.length qK_2), (7, .slice BM X.length qM), (8, .slice BM_2 Y.length qM_2), (9, .int .i64 (((i + 1) : Nat) : Int))] ⟨rfl, rfl, rfl, rfl, rfl, trivial⟩ ?_
          refine To.only [0, 0, 0, 0] rfl ?_
          refine To.again (P.length - (i + 1)) (by omega) ⟨i + 1, rfl, rfl, rfl, (by omega), (by rw [hIi, cmpBy_step he hf, if_pos (by rw [show e = f from Decidable.of_not_not c65]; exact cmpK.refl _)])⟩
      ·
        refine To.exit ?_
        refine To.thenX ?_
        refine To.thenX ?_
        refine To.blockX ?_
        refine To.thenN ?_
        refine To.seq ?_
        refine To.seq ?_
        refine To.reg ?_
        refine To.rd rfl rfl rfl (Rd.move rfl rfl) ?_
        refine To.rd rfl rfl rfl (Rd.len rfl rfl Try.underlying22) ?_
        refine To.rd rfl rfl rfl (Rd.move rfl rfl) ?_
        refine To.rd rfl rfl rfl (Rd.len rfl rfl Try.underlying22) ?_
        refine To.rd rfl rfl rfl (Rd.neq rfl rfl rfl) ?_
        refine To.nil ?_
        refine To.sub [(5, .slice BK P.length qK), (6, .slice BK_2 Q.length qK_2), (7, .slice BM X.length qM), (8, .slice BM_2 Y.length qM_2), (9, .int .i64 ((i : Nat) : Int)), (54, .bool (decide (((i : Nat) : Int) < ((Q.length : Nat) : Int)))), (79, .bool (decide (((P.length : Nat) : Int) ≠ ((Q.length : Nat) : Int))))] ⟨rfl, rfl, rfl, rfl, rfl, rfl, rfl, trivial⟩ ?_
        refine To.thenN ?_
        refine To.condP rfl (fun c79 => ?_) (fun c79 => ?_)
        ·
          refine To.seq ?_
          refine To.reg ?_
          refine To.rd rfl rfl rfl (Rd.move rfl rfl) ?_
          refine To.rd rfl rfl rfl (Rd.len rfl rfl Try.underlying22) ?_
          refine To.rd rfl rfl rfl (Rd.move rfl rfl) ?_
          refine To.rd rfl rfl rfl (Rd.len rfl rfl Try.underlying22) ?_
          refine To.rd rfl rfl rfl (Rd.lss rfl rfl rfl) ?_
          refine To.rd rfl rfl rfl (Rd.assign rfl rfl) ?_
          refine To.nil ?_
          refine To.thenN ?_
          refine To.ret ?_
          refine To.thenR ?_
          refine To.end1 (.inl rfl) Try.results9 rfl ?_
          have hsum : P.length + X.length = Q.length + Y.length := by omega
          refine congrArg Value.bool (decide_eq_decide.2 ?_)
          rw [lessV_eq]
          have hc : cmpBy Ky.cmp P Q = if P.length < Q.length then -1 else 1 := by
            by_cases hlt : P.length < Q.length
            · obtain ⟨f, hf⟩ : ∃ z0, Q[i]? = some z0 := ⟨Q[i]'(by omega), List.getElem?_eq_getElem _⟩
              rw [if_pos hlt, hIi, List.drop_eq_nil_of_le (by omega), drop_of_get hf]; rfl
            · obtain ⟨e, he⟩ : ∃ z0, P[i]? = some z0 := ⟨P[i]'(by omega), List.getElem?_eq_getElem _⟩
              rw [if_neg hlt, hIi, drop_of_get he, show Q.drop i = [] from List.drop_eq_nil_of_le (by omega)]; rfl
          rw [if_pos hsum, hc]
          clear hc hIi
          by_cases hlt : P.length < Q.length
          · rw [if_pos hlt, if_neg (by decide)]; exact ⟨fun _ => by decide, fun _ => by omega⟩
          · rw [if_neg hlt, if_neg (by decide)]; exact ⟨fun h => absurd h (by omega), fun h => absurd h (by decide)⟩
        ·
          refine To.skip ?_
          refine To.thenN ?_
          refine To.seq ?_
          refine To.seq ?_
          have hlen : P.length = Q.length := by omega
          refine To.reg ?_
          refine To.rd rfl rfl rfl (Rd.assign rfl rfl) ?_
          refine To.nil ?_
          refine To.thenN ?_
          refine To.block ?_
          refine To.sub [(5, .slice BK P.length qK), (6, .slice BK_2 Q.length qK_2), (7, .slice BM X.length qM), (8, .slice BM_2 Y.length qM_2), (10, .int .i64 ((0 : Nat) : Int))] ⟨rfl, rfl, rfl, rfl, rfl, trivial⟩ ?_
          refine To.only [0, 0, 0, 0] rfl ?_
          refine To.loop (fun mz ρ Γ => ∃ (j : Nat), ρ = [(5, .slice BK P.length qK), (6, .slice BK_2 Q.length qK_2), (7, .slice BM X.length qM), (8, .slice BM_2 Y.length qM_2), (10, .int .i64 ((j : Nat) : Int))] ∧ Γ = [rows Ky.cells 37 4 BK qK P, rows Ky.cells 37 4 BK_2 qK_2 Q, rows Ms.cells 33 3 BM qM X, rows Ms.cells 33 3 BM_2 qM_2 Y] ∧ mz = X.length - j ∧ (j ≤ X.length ∧ j ≤ Y.length) ∧ (cmpBy Ms.cmp X Y = cmpBy Ms.cmp (X.drop j) (Y.drop j))) (X.length - 0) ⟨0, rfl, rfl, rfl, ⟨Nat.zero_le _, Nat.zero_le _⟩, rfl⟩ ?_
          rintro mz _ _ ⟨j, rfl, rfl, rfl, hj, hIj⟩
          refine To.seq ?_
          refine To.seq ?_
          refine To.reg ?_
          refine To.rd rfl rfl rfl (Rd.move rfl rfl) ?_
          refine To.rd rfl rfl rfl (Rd.move rfl rfl) ?_
          refine To.rd rfl rfl rfl (Rd.len rfl rfl Try.underlying23) ?_
          refine To.rd rfl rfl rfl (Rd.lss rfl rfl rfl) ?_
          refine To.rdP rfl rfl rfl (Rd.move rfl rfl) (fun g89 => ?_) (fun g89 => ?_)
          ·
            refine To.rd rfl rfl rfl (Rd.move rfl rfl) ?_
            refine To.rd rfl rfl rfl (Rd.move rfl rfl) ?_
            refine To.rd rfl rfl rfl (Rd.len rfl rfl Try.underlying23) ?_
            refine To.rd rfl rfl rfl (Rd.lss rfl rfl rfl) ?_
            refine To.rd rfl rfl rfl (Rd.pickT rfl rfl rfl) ?_
            refine To.nil ?_
            refine To.thenN ?_
            refine To.condP rfl (fun c94 => ?_) (fun c94 => ?_)
            ·
              refine To.skip ?_
              refine To.thenN ?_
              refine To.seq ?_
              refine To.block ?_
              refine To.seq ?_
              obtain ⟨e, he⟩ : ∃ z0, X[j]? = some z0 := ⟨X[j]'(by omega), List.getElem?_eq_getElem _⟩
              obtain ⟨f, hf⟩ : ∃ z0, Y[j]? = some z0 := ⟨Y[j]'(by omega), List.getElem?_eq_getElem _⟩
              refine To.flow [] [⟨0, [], 0⟩, ⟨1, [], 0⟩, ⟨4, [], 0⟩, ⟨5, [], 0⟩, ⟨2, [], 1⟩, ⟨3, [], 1⟩, ⟨6, [], 1⟩, ⟨7, [], 1⟩, ⟨8, [], 0⟩] mixed (by kernel_rfl) (oks_nil _) ?_
              refine FlowS.free rfl rfl rfl rfl (Rd.move rfl rfl) ?_
              refine FlowS.free rfl rfl rfl rfl (Rd.move rfl rfl) ?_
              refine FlowS.free rfl rfl rfl rfl (Rd.move rfl rfl) ?_
              refine FlowS.free rfl rfl rfl rfl (Rd.move rfl rfl) ?_
              refine FlowS.rd rfl rfl rfl rfl (Rd.indexRows (i := 2) (j := j) rfl rfl rfl s23 rfl he) ?_
              refine FlowS.rd rfl rfl rfl rfl (Rd.loadS (i := 2) rfl rfl r33 rfl (rows_gives encM he) (encM.len _)) ?_
              refine FlowS.rd rfl rfl rfl rfl (Rd.indexRows (i := 3) (j := j) rfl rfl rfl s23 rfl hf) ?_
              refine FlowS.rd rfl rfl rfl rfl (Rd.loadS (i := 3) rfl rfl r33 rfl (rows_gives encM hf) (encM.len _)) ?_
              refine FlowS.free rfl rfl rfl rfl (Rd.as (v' := .bool (decide (e ≠ f))) (congrArg Value.bool (decide_eq_decide.2 (not_congr Ms.eq_iff))) (Rd.neqF (ks := [.i64, .i64, .i64]) (xs := [e.f, e.t, e.n]) (ys := [f.f, f.t, f.n]) flatM rfl rfl rfl rfl rfl)) ?_
              refine FlowS.fin ?_
              refine To.as [rows Ky.cells 37 4 BK qK P, rows Ky.cells 37 4 BK_2 qK_2 Q, rows Ms.cells 33 3 BM qM X, rows Ms.cells 33 3 BM_2 qM_2 Y] rfl ?_
              refine To.sub [(5, .slice BK P.length qK), (6, .slice BK_2 Q.length qK_2), (7, .slice BM X.length qM), (8, .slice BM_2 Y.length qM_2), (10, .int .i64 ((j : Nat) : Int)), (94, .bool (decide (((j : Nat) : Int) < ((Y.length : Nat) : Int)))), (105, .bool (decide (e ≠ f)))] ⟨rfl, rfl, rfl, rfl, rfl, rfl, rfl, trivial⟩ ?_
              refine To.thenN ?_
              refine To.condP rfl (fun c105 => ?_) (fun c105 => ?_)
              ·
                refine To.seq ?_
                refine To.flow [] [⟨0, [], 0⟩, ⟨1, [], 0⟩, ⟨4, [], 0⟩, ⟨5, [], 0⟩, ⟨2, [], 1⟩, ⟨3, [], 1⟩, ⟨6, [], 1⟩, ⟨7, [], 1⟩, ⟨8, [], 3⟩, ⟨9, [], 0⟩] mixed (by kernel_rfl) (oks_nil _) ?_
                refine FlowS.free rfl rfl rfl rfl (Rd.move rfl rfl) ?_
                refine FlowS.free rfl rfl rfl rfl (Rd.move rfl rfl) ?_
                refine FlowS.free rfl rfl rfl rfl (Rd.move rfl rfl) ?_
                refine FlowS.free rfl rfl rfl rfl (Rd.move rfl rfl) ?_
                refine FlowS.rd rfl rfl rfl rfl (Rd.indexRows (i := 2) (j := j) rfl rfl rfl s23 rfl he) ?_
                refine FlowS.rd rfl rfl rfl rfl (Rd.loadS (i := 2) rfl rfl r33 rfl (rows_gives encM he) (encM.len _)) ?_
                refine FlowS.rd rfl rfl rfl rfl (Rd.indexRows (i := 3) (j := j) rfl rfl rfl s23 rfl hf) ?_
                refine FlowS.rd rfl rfl rfl rfl (Rd.loadS (i := 3) rfl rfl r33 rfl (rows_gives encM hf) (encM.len _)) ?_
                refine FlowS.callQ rfl rfl rfl rfl (Ent.fn rfl rfl ca11) (rlessM_fn e f) rfl (oks_nil _) ?_
                refine FlowS.free rfl rfl rfl rfl (Rd.assign rfl rfl) ?_
                refine FlowS.fin ?_
                refine To.as [rows Ky.cells 37 4 BK qK P, rows Ky.cells 37 4 BK_2 qK_2 Q, rows Ms.cells 33 3 BM qM X, rows Ms.cells 33 3 BM_2 qM_2 Y] rfl ?_
                refine To.thenN ?_
                refine To.ret ?_
                refine To.blockR ?_
                refine To.thenR ?_
                refine To.thenR ?_
                refine To.blockR ?_
                refine To.thenR ?_
                refine To.end1 (.inl rfl) Try.results9 rfl ?_
                have hsum : P.length + X.length = Q.length + Y.length := by omega
                have hlen : P.length = Q.length := by omega
                have hc : cmpBy Ky.cmp P Q = 0 := by rw [hIi, List.drop_eq_nil_of_le (by omega), List.drop_eq_nil_of_le (by omega)]; rfl
                refine congrArg Value.bool (decide_eq_decide.2 ?_)
                rw [lessV_eq]
                have hne : e.cmp f ≠ 0 := fun h0 => c105 (Ms.cmp_zero _ _ h0)
                rw [if_pos hsum, hc, if_pos rfl, hIj, cmpBy_step he hf, if_neg hne]
              ·
                refine To.skip ?_
                refine To.blockN ?_
                refine To.thenN ?_
                refine To.reg ?_
                refine To.rd rfl rfl rfl (Rd.move rfl rfl) ?_
                refine To.rd rfl rfl rfl (Rd.inc rfl rfl rfl (by omega)) ?_
                refine To.rd rfl rfl rfl (Rd.assign rfl rfl) ?_
                refine To.nil ?_
                refine To.thenN ?_
                refine To.sub [(5, .slice BK P.length qK), (6, .slice BK_2 Q.length qK_2), (7, .slice BM X.length qM), (8, .slice BM_2 Y.length qM_2), (10, .int .i64 (((j + 1) : Nat) : Int))] ⟨rfl, rfl, rfl, rfl, rfl, trivial⟩ ?_
                refine To.only [0, 0, 0, 0] rfl ?_
                refine To.again (X.length - (j + 1)) (by omega) ⟨j + 1, rfl, rfl, rfl, (by omega), (by rw [hIj, cmpBy_step he hf, if_pos (by rw [show e = f from Decidable.of_not_not c105]; exact cmpM.refl _)])⟩
            ·
              refine To.exit ?_
              refine To.thenX ?_
              refine To.thenX ?_
              refine To.blockX ?_
              refine To.thenN ?_
              refine To.seq ?_
              refine To.reg ?_
              refine To.rd rfl rfl rfl (Rd.assign rfl rfl) ?_
              refine To.nil ?_
              refine To.thenN ?_
              refine To.ret ?_
              refine To.end1 (.inl rfl) Try.results9 rfl ?_
              have hsum : P.length + X.length = Q.length + Y.length := by omega
              have hlen : P.length = Q.length := by omega
              have hc : cmpBy Ky.cmp P Q = 0 := by rw [hIi, List.drop_eq_nil_of_le (by omega), List.drop_eq_nil_of_le (by omega)]; rfl
              have hd : cmpBy Ms.cmp X Y = 0 := by rw [hIj, List.drop_eq_nil_of_le (by omega), List.drop_eq_nil_of_le (by omega)]; rfl
              rw [lessV_eq, if_pos hsum, hc, if_pos rfl, hd]; rfl
          ·
            refine To.sk rfl rfl rfl ?_
            refine To.sk rfl rfl rfl ?_
            refine To.sk rfl rfl rfl ?_
            refine To.sk rfl rfl rfl ?_
            refine To.rd rfl rfl rfl (Rd.pickF rfl rfl rfl) ?_
            refine To.nil ?_
            refine To.thenN ?_
            refine To.condF rfl ?_
            refine To.exit ?_
            refine To.thenX ?_
            refine To.thenX ?_
            refine To.blockX ?_
            refine To.thenN ?_
            refine To.seq ?_
            refine To.reg ?_
            refine To.rd rfl rfl rfl (Rd.assign rfl rfl) ?_
            refine To.nil ?_
            refine To.thenN ?_
            refine To.ret ?_
            refine To.end1 (.inl rfl) Try.results9 rfl ?_
            have hsum : P.length + X.length = Q.length + Y.length := by omega
            have hlen : P.length = Q.length := by omega
            have hc : cmpBy Ky.cmp P Q = 0 := by rw [hIi, List.drop_eq_nil_of_le (by omega), List.drop_eq_nil_of_le (by omega)]; rfl
            have hd : cmpBy Ms.cmp X Y = 0 := by rw [hIj, List.drop_eq_nil_of_le (by omega), List.drop_eq_nil_of_le (by omega)]; rfl
            rw [lessV_eq, if_pos hsum, hc, if_pos rfl, hd]; rfl
    ·
      refine To.sk rfl rfl rfl ?_
      refine To.sk rfl rfl rfl ?_
      refine To.sk rfl rfl rfl ?_
      refine To.sk rfl rfl rfl ?_
      refine To.rd rfl rfl rfl (Rd.pickF rfl rfl rfl) ?_
      refine To.nil ?_
      refine To.thenN ?_
      refine To.condF rfl ?_
      refine To.exit ?_
      refine To.thenX ?_
      refine To.thenX ?_
      refine To.blockX ?_
      refine To.thenN ?_
      refine To.seq ?_
      refine To.seq ?_
      refine To.reg ?_
      refine To.rd rfl rfl rfl (Rd.move rfl rfl) ?_
      refine To.rd rfl rfl rfl (Rd.len rfl rfl Try.underlying22) ?_
      refine To.rd rfl rfl rfl (Rd.move rfl rfl) ?_
      refine To.rd rfl rfl rfl (Rd.len rfl rfl Try.underlying22) ?_
      refine To.rd rfl rfl rfl (Rd.neq rfl rfl rfl) ?_
      refine To.nil ?_
      refine To.sub [(5, .slice BK P.length qK), (6, .slice BK_2 Q.length qK_2), (7, .slice BM X.length qM), (8, .slice BM_2 Y.length qM_2), (9, .int .i64 ((i : Nat) : Int)), (54, .bool false), (79, .bool (decide (((P.length : Nat) : Int) ≠ ((Q.length : Nat) : Int))))] ⟨rfl, rfl, rfl, rfl, rfl, rfl, rfl, trivial⟩ ?_
      refine To.thenN ?_
      refine To.condP rfl (fun c79 => ?_) (fun c79 => ?_)
      ·
        refine To.seq ?_
        refine To.reg ?_
        refine To.rd rfl rfl rfl (Rd.move rfl rfl) ?_
        refine To.rd rfl rfl rfl (Rd.len rfl rfl Try.underlying22) ?_
        refine To.rd rfl rfl rfl (Rd.move rfl rfl) ?_
        refine To.rd rfl rfl rfl (Rd.len rfl rfl Try.underlying22) ?_
        refine To.rd rfl rfl rfl (Rd.lss rfl rfl rfl) ?_
        refine To.rd rfl rfl rfl (Rd.assign rfl rfl) ?_
        refine To.nil ?_
        refine To.thenN ?_
        refine To.ret ?_
        refine To.thenR ?_
        refine To.end1 (.inl rfl) Try.results9 rfl ?_
        have hsum : P.length + X.length = Q.length + Y.length := by omega
        refine congrArg Value.bool (decide_eq_decide.2 ?_)
        rw [lessV_eq]
        have hc : cmpBy Ky.cmp P Q = if P.length < Q.length then -1 else 1 := by
          by_cases hlt : P.length < Q.length
          · obtain ⟨f, hf⟩ : ∃ z0, Q[i]? = some z0 := ⟨Q[i]'(by omega), List.getElem?_eq_getElem _⟩
            rw [if_pos hlt, hIi, List.drop_eq_nil_of_le (by omega), drop_of_get hf]; rfl
          · obtain ⟨e, he⟩ : ∃ z0, P[i]? = some z0 := ⟨P[i]'(by omega), List.getElem?_eq_getElem _⟩
            rw [if_neg hlt, hIi, drop_of_get he, show Q.drop i = [] from List.drop_eq_nil_of_le (by omega)]; rfl
        rw [if_pos hsum, hc]
        clear hc hIi
        by_cases hlt : P.length < Q.length
        · rw [if_pos hlt, if_neg (by decide)]; exact ⟨fun _ => by decide, fun _ => by omega⟩
        · rw [if_neg hlt, if_neg (by decide)]; exact ⟨fun h => absurd h (by omega), fun h => absurd h (by decide)⟩
      ·
        refine To.skip ?_
        refine To.thenN ?_
        refine To.seq ?_
        refine To.seq ?_
        have hlen : P.length = Q.length := by omega
        refine To.reg ?_
        refine To.rd rfl rfl rfl (Rd.assign rfl rfl) ?_
        refine To.nil ?_
        refine To.thenN ?_
        refine To.block ?_
        refine To.sub [(5, .slice BK P.length qK), (6, .slice BK_2 Q.length qK_2), (7, .slice BM X.length qM), (8, .slice BM_2 Y.length qM_2), (10, .int .i64 ((0 : Nat) : Int))] ⟨rfl, rfl, rfl, rfl, rfl, trivial⟩ ?_
        refine To.only [0, 0, 0, 0] rfl ?_
        refine To.loop (fun mz ρ Γ => ∃ (j : Nat), ρ = [(5, .slice BK P.length qK), (6, .slice BK_2 Q.length qK_2), (7, .slice BM X.length qM), (8, .slice BM_2 Y.length qM_2), (10, .int .i64 ((j : Nat) : Int))] ∧ Γ = [rows Ky.cells 37 4 BK qK P, rows Ky.cells 37 4 BK_2 qK_2 Q, rows Ms.cells 33 3 BM qM X, rows Ms.cells 33 3 BM_2 qM_2 Y] ∧ mz = X.length - j ∧ (j ≤ X.length ∧ j ≤ Y.length) ∧ (cmpBy Ms.cmp X Y = cmpBy Ms.cmp (X.drop j) (Y.drop j))) (X.length - 0) ⟨0, rfl, rfl, rfl, ⟨Nat.zero_le _, Nat.zero_le _⟩, rfl⟩ ?_
        rintro mz _ _ ⟨j, rfl, rfl, rfl, hj, hIj⟩
        refine To.seq ?_
        refine To.seq ?_
        refine To.reg ?_
        refine To.rd rfl rfl rfl (Rd.move rfl rfl) ?_
        refine To.rd rfl rfl rfl (Rd.move rfl rfl) ?_
        refine To.rd rfl rfl rfl (Rd.len rfl rfl Try.underlying23) ?_
        refine To.rd rfl rfl rfl (Rd.lss rfl rfl rfl) ?_
        refine To.rdP rfl rfl rfl (Rd.move rfl rfl) (fun g89 => ?_) (fun g89 => ?_)
        ·
          refine To.rd rfl rfl rfl (Rd.move rfl rfl) ?_
          refine To.rd rfl rfl rfl (Rd.move rfl rfl) ?_
          refine To.rd rfl rfl rfl (Rd.len rfl rfl Try.underlying23) ?_
          refine To.rd rfl rfl rfl (Rd.lss rfl rfl rfl) ?_
          refine To.rd rfl rfl rfl (Rd.pickT rfl rfl rfl) ?_
          refine To.nil ?_
          refine To.thenN ?_
          refine To.condP rfl (fun c94 => ?_) (fun c94 => ?_)
          ·
            refine To.skip ?_
            refine To.thenN ?_
            refine To.seq ?_
            refine To.block ?_
            refine To.seq ?_
            obtain ⟨e, he⟩ : ∃ z0, X[j]? = some z0 := ⟨X[j]'(by omega), List.getElem?_eq_getElem _⟩
            obtain ⟨f, hf⟩ : ∃ z0, Y[j]? = some z0 := ⟨Y[j]'(by omega), List.getElem?_eq_getElem _⟩
            refine To.flow [] [⟨0, [], 0⟩, ⟨1, [], 0⟩, ⟨4, [], 0⟩, ⟨5, [], 0⟩, ⟨2, [], 1⟩, ⟨3, [], 1⟩, ⟨6, [], 1⟩, ⟨7, [], 1⟩, ⟨8, [], 0⟩] mixed (by kernel_rfl) (oks_nil _) ?_
            refine FlowS.free rfl rfl rfl rfl (Rd.move rfl rfl) ?_
            refine FlowS.free rfl rfl rfl rfl (Rd.move rfl rfl) ?_
            refine FlowS.free rfl rfl rfl rfl (Rd.move rfl rfl) ?_
            refine FlowS.free rfl rfl rfl rfl (Rd.move rfl rfl) ?_
            refine FlowS.rd rfl rfl rfl rfl (Rd.indexRows (i := 2) (j := j) rfl rfl rfl s23 rfl he) ?_
            refine FlowS.rd rfl rfl rfl rfl (Rd.loadS (i := 2) rfl rfl r33 rfl (rows_gives encM he) (encM.len _)) ?_
            refine FlowS.rd rfl rfl rfl rfl (Rd.indexRows (i := 3) (j := j) rfl rfl rfl s23 rfl hf) ?_
            refine FlowS.rd rfl rfl rfl rfl (Rd.loadS (i := 3) rfl rfl r33 rfl (rows_gives encM hf) (encM.len _)) ?_
            refine FlowS.free rfl rfl rfl rfl (Rd.as (v' := .bool (decide (e ≠ f))) (congrArg Value.bool (decide_eq_decide.2 (not_congr Ms.eq_iff))) (Rd.neqF (ks := [.i64, .i64, .i64]) (xs := [e.f, e.t, e.n]) (ys := [f.f, f.t, f.n]) flatM rfl rfl rfl rfl rfl)) ?_
            refine FlowS.fin ?_
            refine To.as [rows Ky.cells 37 4 BK qK P, rows Ky.cells 37 4 BK_2 qK_2 Q, rows Ms.cells 33 3 BM qM X, rows Ms.cells 33 3 BM_2 qM_2 Y] rfl ?_
            refine To.sub [(5, .slice BK P.length qK), (6, .slice BK_2 Q.length qK_2), (7, .slice BM X.length qM), (8, .slice BM_2 Y.length qM_2), (10, .int .i64 ((j : Nat) : Int)), (94, .bool (decide (((j : Nat) : Int) < ((Y.length : Nat) : Int)))), (105, .bool (decide (e ≠ f)))] ⟨rfl, rfl, rfl, rfl, rfl, rfl, rfl, trivial⟩ ?_
            refine To.thenN ?_
            refine To.condP rfl (fun c105 => ?_) (fun c105 => ?_)
            ·
              refine To.seq ?_
              refine To.flow [] [⟨0, [], 0⟩, ⟨1, [], 0⟩, ⟨4, [], 0⟩, ⟨5, [], 0⟩, ⟨2, [], 1⟩, ⟨3, [], 1⟩, ⟨6, [], 1⟩, ⟨7, [], 1⟩, ⟨8, [], 3⟩, ⟨9, [], 0⟩] mixed (by kernel_rfl) (oks_nil _) ?_
              refine FlowS.free rfl rfl rfl rfl (Rd.move rfl rfl) ?_
              refine FlowS.free rfl rfl rfl rfl (Rd.move rfl rfl) ?_
              refine FlowS.free rfl rfl rfl rfl (Rd.move rfl rfl) ?_
              refine FlowS.free rfl rfl rfl rfl (Rd.move rfl rfl) ?_
              refine FlowS.rd rfl rfl rfl rfl (Rd.indexRows (i := 2) (j := j) rfl rfl rfl s23 rfl he) ?_
              refine FlowS.rd rfl rfl rfl rfl (Rd.loadS (i := 2) rfl rfl r33 rfl (rows_gives encM he) (encM.len _)) ?_
              refine FlowS.rd rfl rfl rfl rfl (Rd.indexRows (i := 3) (j := j) rfl rfl rfl s23 rfl hf) ?_
              refine FlowS.rd rfl rfl rfl rfl (Rd.loadS (i := 3) rfl rfl r33 rfl (rows_gives encM hf) (encM.len _)) ?_
              refine FlowS.callQ rfl rfl rfl rfl (Ent.fn rfl rfl ca11) (rlessM_fn e f) rfl (oks_nil _) ?_
              refine FlowS.free rfl rfl rfl rfl (Rd.assign rfl rfl) ?_
              refine FlowS.fin ?_
              refine To.as [rows Ky.cells 37 4 BK qK P, rows Ky.cells 37 4 BK_2 qK_2 Q, rows Ms.cells 33 3 BM qM X, rows Ms.cells 33 3 BM_2 qM_2 Y] rfl ?_
              refine To.thenN ?_
              refine To.ret ?_
              refine To.blockR ?_
              refine To.thenR ?_
              refine To.thenR ?_
              refine To.blockR ?_
              refine To.thenR ?_
              refine To.end1 (.inl rfl) Try.results9 rfl ?_
              have hsum : P.length + X.length = Q.length + Y.length := by omega
              have hlen : P.length = Q.length := by omega
              have hc : cmpBy Ky.cmp P Q = 0 := by rw [hIi, List.drop_eq_nil_of_le (by omega), List.drop_eq_nil_of_le (by omega)]; rfl
              refine congrArg Value.bool (decide_eq_decide.2 ?_)
              rw [lessV_eq]
              have hne : e.cmp f ≠ 0 := fun h0 => c105 (Ms.cmp_zero _ _ h0)
              rw [if_pos hsum, hc, if_pos rfl, hIj, cmpBy_step he hf, if_neg hne]
            ·
              refine To.skip ?_
              refine To.blockN ?_
              refine To.thenN ?_
              refine To.reg ?_
              refine To.rd rfl rfl rfl (Rd.move rfl rfl) ?_
              refine To.rd rfl rfl rfl (Rd.inc rfl rfl rfl (by omega)) ?_
              refine To.rd rfl rfl rfl (Rd.assign rfl rfl) ?_
              refine To.nil ?_
              refine To.thenN ?_
              refine To.sub [(5, .slice BK P.length qK), (6, .slice BK_2 Q.length qK_2), (7, .slice BM X.length qM), (8, .slice BM_2 Y.length qM_2), (10, .int .i64 (((j + 1) : Nat) : Int))] ⟨rfl, rfl, rfl, rfl, rfl, trivial⟩ ?_
              refine To.only [0, 0, 0, 0] rfl ?_
              refine To.again (X.length - (j + 1)) (by omega) ⟨j + 1, rfl, rfl, rfl, (by omega), (by rw [hIj, cmpBy_step he hf, if_pos (by rw [show e = f from Decidable.of_not_not c105]; exact cmpM.refl _)])⟩
          ·
            refine To.exit ?_
            refine To.thenX ?_
            refine To.thenX ?_
            refine To.blockX ?_
            refine To.thenN ?_
            refine To.seq ?_
            refine To.reg ?_
            refine To.rd rfl rfl rfl (Rd.assign rfl rfl) ?_
            refine To.nil ?_
            refine To.thenN ?_
            refine To.ret ?_
            refine To.end1 (.inl rfl) Try.results9 rfl ?_
            have hsum : P.length + X.length = Q.length + Y.length := by omega
            have hlen : P.length = Q.length := by omega
            have hc : cmpBy Ky.cmp P Q = 0 := by rw [hIi, List.drop_eq_nil_of_le (by omega), List.drop_eq_nil_of_le (by omega)]; rfl
            have hd : cmpBy Ms.cmp X Y = 0 := by rw [hIj, List.drop_eq_nil_of_le (by omega), List.drop_eq_nil_of_le (by omega)]; rfl
            rw [lessV_eq, if_pos hsum, hc, if_pos rfl, hd]; rfl
        ·
          refine To.sk rfl rfl rfl ?_
          refine To.sk rfl rfl rfl ?_
          refine To.sk rfl rfl rfl ?_
          refine To.sk rfl rfl rfl ?_
          refine To.rd rfl rfl rfl (Rd.pickF rfl rfl rfl) ?_
          refine To.nil ?_
          refine To.thenN ?_
          refine To.condF rfl ?_
          refine To.exit ?_
          refine To.thenX ?_
          refine To.thenX ?_
          refine To.blockX ?_
          refine To.thenN ?_
          refine To.seq ?_
          refine To.reg ?_
          refine To.rd rfl rfl rfl (Rd.assign rfl rfl) ?_
          refine To.nil ?_
          refine To.thenN ?_
          refine To.ret ?_
          refine To.end1 (.inl rfl) Try.results9 rfl ?_
          have hsum : P.length + X.length = Q.length + Y.length := by omega
          have hlen : P.length = Q.length := by omega
          have hc : cmpBy Ky.cmp P Q = 0 := by rw [hIi, List.drop_eq_nil_of_le (by omega), List.drop_eq_nil_of_le (by omega)]; rfl
          have hd : cmpBy Ms.cmp X Y = 0 := by rw [hIj, List.drop_eq_nil_of_le (by omega), List.drop_eq_nil_of_le (by omega)]; rfl
          rw [lessV_eq, if_pos hsum, hc, if_pos rfl, hd]; rfl
set_option maxHeartbeats 2000000 in
set_option maxRecDepth 100000 in
theorem lessT_fn (A B A2 B2 : Option Addr) (ca cb ca2 cb2 : Nat) (p q : List Ky) (x y : List Ms) (hp : p.length ≤ 12) (hx : x.length ≤ 12) (hq : q.length ≤ 12) (hy : y.length ≤ 12) :
    Does Try.prog 6 [.agg #[.slice A p.length ca, .slice B x.length cb], .agg #[.slice A2 q.length ca2, .slice B2 y.length cb2]] [ros Ky.cells A p, ros Ms.cells B x, ros Ky.cells A2 q, ros Ms.cells B2 y] (fun v _ => v = .bool (decide (lessV (isort Ky.cmp p.reverse) (isort Ms.cmp x.reverse) (isort Ky.cmp q) (isort Ms.cmp y) < 0))) := by
  refine Does.enter Try.func6 rfl Try.ntmps6 rfl (fun w0 => ?_)
  refine To.seq ?_
  refine To.reg ?_
  refine To.boxed rfl rfl rfl rfl rfl rfl (fun b2 => ?_)
  refine To.boxed rfl rfl rfl rfl rfl rfl (fun b3 => ?_)
  refine To.rd rfl rfl rfl (Rd.assign rfl rfl) ?_
  refine To.nil ?_
  refine To.thenN ?_
  refine To.seq ?_
  refine To.flow [box b3 [.slice A2 q.length ca2, .slice B2 y.length cb2] 25, box b2 [.slice A p.length ca, .slice B x.length cb] 25, ros Ky.cells A p, ros Ms.cells B x, ros Ky.cells A2 q, ros Ms.cells B2 y] [⟨0, [], 1⟩, ⟨1, [], 4⟩, ⟨2, [], 1⟩, ⟨3, [1], 3⟩, ⟨4, [1], 0⟩] mixed (by kernel_rfl) (oks_cons (oks_at 0 rfl) (oks_cons (oks_at 1 rfl) (oks_cons (oks_at 2 rfl) (oks_cons (oks_at 3 rfl) (oks_cons (oks_at 4 rfl) (oks_cons (oks_at 5 rfl) (oks_nil _))))))) ?_
  refine FlowS.rd rfl rfl rfl rfl (Rd.loadS (i := 1) rfl rfl r25 rfl box_whole rfl) ?_
  refine FlowS.callM rfl rfl rfl rfl rfl (Ent.fn rfl rfl ca8) (turn_fn A B ca cb p x (by omega) (by omega)) rfl (oks_cons (oks_at 2 rfl) (oks_cons (oks_at 3 rfl) (oks_nil _))) ?_
  rintro _ _ ⟨A', a', B', b', rfl, rfl⟩
  refine ⟨rfl, ?_⟩
  refine FlowS.rd rfl rfl rfl rfl (Rd.loadS (i := 0) rfl rfl r25 rfl box_whole rfl) ?_
  refine FlowS.callQ rfl rfl rfl rfl (Ent.fn rfl rfl ca7) (less_fn A' B' A2 B2 a' b' ca2 cb2 p.reverse q x.reverse y (by simpa using hp) (by simpa using hx) hq hy) rfl (oks_cons (oks_row 0 rfl) (oks_cons (oks_row 1 rfl) (oks_cons (oks_at 6 rfl) (oks_cons (oks_at 7 rfl) (oks_nil _))))) ?_
  refine FlowS.free rfl rfl rfl rfl (Rd.assign rfl rfl) ?_
  refine FlowS.fin ?_
  refine To.as [rows Ky.cells 37 4 A' a' p.reverse, rows Ms.cells 33 3 B' b' x.reverse, box b3 [.slice A2 q.length ca2, .slice B2 y.length cb2] 25, box b2 [.slice A p.length ca, .slice B x.length cb] 25, ros Ky.cells A p, ros Ms.cells B x, ros Ky.cells A2 q, ros Ms.cells B2 y] rfl ?_
  refine To.thenN ?_
  refine To.ret ?_
  refine To.end1 (.inl rfl) Try.results6 rfl ?_
  rfl
end Go.Proofs.Ytnghonabedcacaa

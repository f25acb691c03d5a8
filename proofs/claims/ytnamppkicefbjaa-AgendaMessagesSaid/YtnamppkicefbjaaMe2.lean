/- The walk of Send, over a network without choices and holds. Own text (walks printed by sx.py). -/
import Derived.Test.YtnamppkicefbjaaMe1
namespace Go.Proofs.Ytnamppkicefbjaa
open Go.RowKit Go.Flow Go.Mem Go.Sep
set_option maxHeartbeats 2000000 in
set_option maxRecDepth 100000 in
theorem send0_fn (n : Nat) (c0 c1 tick lat : Int) (mp : Value) (A : Option Addr) (q : Nat) (xs : List Int) (hl : xs.length ≤ 1000000) (h0 : 0 ≤ c0 ∧ c0 ≤ 1000000) (h1 : 0 ≤ c1 ∧ c1 ≤ 1000000) (ht : 0 ≤ tick ∧ tick ≤ 1000000) (hla : 0 ≤ lat ∧ lat ≤ 1000000) :
    Does Try.prog 30 [.pointer (some ⟨n, 0, none⟩), .int .i64 0, .int .i64 2, .int .i64 0, .slice A xs.length q, .int .i64 tick, .int .i64 lat] [box n (netC c0 c1 mp) 104, ros encI A xs] (fun v Γ' => ∃ A1 q1 A2 q2, v = .tuple #[.int .i64 c0, .slice A2 1 q2] ∧ Γ' = [box n (netC (c0 + 1) (c1) mp) 104, rows Arr.cells 76 3 A2 q2 [Arr.mk (tick + max lat 1) 0 xs A1 q1], rows encI 2 1 A1 q1 xs]) := by
  refine Does.enter Try.func30 rfl Try.ntmps30 rfl (fun w0 => ?_)
  refine To.seq ?_
  refine To.reg ?_
  refine To.rd rfl rfl rfl (Rd.assign rfl rfl) ?_
  refine To.rd rfl rfl rfl (Rd.assign rfl rfl) ?_
  refine To.nil ?_
  refine To.thenN ?_
  refine To.seq ?_
  refine To.seq ?_
  refine To.reg ?_
  refine To.rd rfl rfl rfl (Rd.move rfl rfl) ?_
  refine To.rd rfl rfl rfl (Rd.eqlNil rfl Try.underlying66 rfl rfl) ?_
  refine To.rd rfl rfl rfl (Rd.move rfl rfl) ?_
  refine To.rd rfl rfl rfl (Rd.move rfl rfl) ?_
  refine To.callV rfl rfl rfl (Ent.fn rfl rfl ca52) (component_fn 0 (by omega)) rfl (oks_nil _) ?_
  refine To.rd rfl rfl rfl (Rd.not rfl rfl) ?_
  refine To.rd rfl rfl rfl (Rd.pickF rfl rfl rfl) ?_
  refine To.rd rfl rfl rfl (Rd.move rfl rfl) ?_
  refine To.rd rfl rfl rfl (Rd.move rfl rfl) ?_
  refine To.callV rfl rfl rfl (Ent.fn rfl rfl ca52) (component_fn 2 (by omega)) rfl (oks_nil _) ?_
  refine To.rd rfl rfl rfl (Rd.not rfl rfl) ?_
  refine To.rd rfl rfl rfl (Rd.pickF rfl rfl rfl) ?_
  refine To.nil ?_
  refine To.thenN ?_
  refine To.condF rfl ?_
  refine To.skip ?_
  refine To.thenN ?_
  refine To.seq ?_
  refine To.reg ?_
  refine To.rd rfl rfl rfl (Rd.move rfl rfl) ?_
  refine To.rd rfl rfl rfl (Rd.move rfl rfl) ?_
  refine To.rd rfl rfl rfl (Rd.move rfl rfl) ?_
  refine To.rd rfl rfl rfl (Rd.nilCheck rfl rfl) ?_
  refine To.rd rfl rfl rfl (Rd.field rfl rfl fl104_2) ?_
  refine To.rd rfl rfl rfl (Rd.indexArr (j := 0) rfl (ArrTy.of (size := 8) Try.underlying102 (by kernel_rfl)) rfl rfl (by decide)) ?_
  refine To.rd rfl rfl rfl (Rd.indexArr (j := 2) rfl (ArrTy.of (size := 1) Try.underlying101 (by kernel_rfl)) rfl rfl (by decide)) ?_
  refine To.rd rfl rfl rfl (Rd.load (i := 0) rfl rfl c3 rfl (box_gives1 rfl)) ?_
  refine To.rd rfl rfl rfl (Rd.assign rfl rfl) ?_
  refine To.nil ?_
  refine To.thenN ?_
  refine To.seq ?_
  refine To.flow [] [⟨0, [], 0⟩, ⟨1, [], 0⟩, ⟨2, [], 0⟩, ⟨3, [], 0⟩, ⟨4, [], 0⟩, ⟨9, [], 0⟩, ⟨10, [], 0⟩, ⟨5, [], 1⟩, ⟨6, [], 1⟩, ⟨7, [], 1⟩, ⟨8, [], 0⟩, ⟨11, [], 1⟩, ⟨12, [], 1⟩, ⟨13, [], 5⟩] mixed (by kernel_rfl) (oks_nil _) ?_
  refine FlowS.free rfl rfl rfl rfl (Rd.move rfl rfl) ?_
  refine FlowS.free rfl rfl rfl rfl (Rd.move rfl rfl) ?_
  refine FlowS.free rfl rfl rfl rfl (Rd.move rfl rfl) ?_
  refine FlowS.free rfl rfl rfl rfl (Rd.nilCheck rfl rfl) ?_
  refine FlowS.free rfl rfl rfl rfl (Rd.field rfl rfl fl104_2) ?_
  refine FlowS.free rfl rfl rfl rfl (Rd.nilCheck rfl rfl) ?_
  refine FlowS.free rfl rfl rfl rfl (Rd.field rfl rfl fl104_2) ?_
  refine FlowS.rd rfl rfl rfl rfl (Rd.indexArr (j := 0) rfl (ArrTy.of (size := 8) Try.underlying102 (by kernel_rfl)) rfl rfl (by decide)) ?_
  refine FlowS.rd rfl rfl rfl rfl (Rd.indexArr (j := 2) rfl (ArrTy.of (size := 1) Try.underlying101 (by kernel_rfl)) rfl rfl (by decide)) ?_
  refine FlowS.rd rfl rfl rfl rfl (Rd.load (i := 0) rfl rfl c3 rfl (box_gives1 rfl)) ?_
  refine FlowS.free rfl rfl rfl rfl (Rd.add64 rfl rfl rfl (by omega)) ?_
  refine FlowS.rd rfl rfl rfl rfl (Rd.indexArr (j := 0) rfl (ArrTy.of (size := 8) Try.underlying102 (by kernel_rfl)) rfl rfl (by decide)) ?_
  refine FlowS.rd rfl rfl rfl rfl (Rd.indexArr (j := 2) rfl (ArrTy.of (size := 1) Try.underlying101 (by kernel_rfl)) rfl rfl (by decide)) ?_
  refine FlowS.up (Γ' := [box n [.slice none 0 0, .slice none 0 0, .int .i64 0, .int .i64 0, .int .i64 (c0 + 1), .int .i64 0, .int .i64 0, .int .i64 0, .int .i64 0, .int .i64 0, .int .i64 0, .int .i64 0, .int .i64 c1, .int .i64 0, .int .i64 0, .int .i64 0, .int .i64 0, .int .i64 0, .int .i64 0, .int .i64 0, .int .i64 0, .int .i64 0, .int .i64 0, .int .i64 0, .int .i64 0, .int .i64 0, .int .i64 0, .int .i64 0, .int .i64 0, .int .i64 0, .int .i64 0, .int .i64 0, .int .i64 0, .int .i64 0, .int .i64 0, .int .i64 0, .int .i64 0, .int .i64 0, .int .i64 0, .int .i64 0, .int .i64 0, .int .i64 0, .int .i64 0, .int .i64 0, .int .i64 0, .int .i64 0, .int .i64 0, .int .i64 0, .int .i64 0, .int .i64 0, .int .i64 0, .int .i64 0, .int .i64 0, .int .i64 0, .int .i64 0, .int .i64 0, .int .i64 0, .int .i64 0, .int .i64 0, .int .i64 0, .int .i64 0, .int .i64 0, .int .i64 0, .int .i64 0, .int .i64 0, .int .i64 0, .int .i64 0, .int .i64 0, .int .i64 0, .int .i64 0, .int .i64 0, .int .i64 0, .int .i64 0, .int .i64 0, .int .i64 0, .int .i64 0, .int .i64 0, .int .i64 0, .int .i64 0, .int .i64 0, .int .i64 0, .int .i64 0, mp] 104, ros encI A xs]) rfl rfl rfl (Up.store (i := 0) rfl rfl rfl c3 rfl rfl (box_takes1 rfl)) (oks_nil _) ?_
  refine FlowS.fin ?_
  refine To.as [box n [.slice none 0 0, .slice none 0 0, .int .i64 0, .int .i64 0, .int .i64 (c0 + 1), .int .i64 0, .int .i64 0, .int .i64 0, .int .i64 0, .int .i64 0, .int .i64 0, .int .i64 0, .int .i64 c1, .int .i64 0, .int .i64 0, .int .i64 0, .int .i64 0, .int .i64 0, .int .i64 0, .int .i64 0, .int .i64 0, .int .i64 0, .int .i64 0, .int .i64 0, .int .i64 0, .int .i64 0, .int .i64 0, .int .i64 0, .int .i64 0, .int .i64 0, .int .i64 0, .int .i64 0, .int .i64 0, .int .i64 0, .int .i64 0, .int .i64 0, .int .i64 0, .int .i64 0, .int .i64 0, .int .i64 0, .int .i64 0, .int .i64 0, .int .i64 0, .int .i64 0, .int .i64 0, .int .i64 0, .int .i64 0, .int .i64 0, .int .i64 0, .int .i64 0, .int .i64 0, .int .i64 0, .int .i64 0, .int .i64 0, .int .i64 0, .int .i64 0, .int .i64 0, .int .i64 0, .int .i64 0, .int .i64 0, .int .i64 0, .int .i64 0, .int .i64 0, .int .i64 0, .int .i64 0, .int .i64 0, .int .i64 0, .int .i64 0, .int .i64 0, .int .i64 0, .int .i64 0, .int .i64 0, .int .i64 0, .int .i64 0, .int .i64 0, .int .i64 0, .int .i64 0, .int .i64 0, .int .i64 0, .int .i64 0, .int .i64 0, .int .i64 0, mp] 104, ros encI A xs] rfl ?_
  refine To.sub [(0, .pointer (some ⟨n, 0, none⟩)), (1, .int .i64 0), (2, .int .i64 2), (3, .int .i64 0), (4, .slice A xs.length q), (5, .int .i64 tick), (6, .int .i64 lat), (14, .int .i64 c0), (15, .slice none 0 0), (23, .pointer (some ⟨n, 0, none⟩)), (24, .bool false), (25, .bool false), (26, .int .i64 0), (27, .bool true), (28, .bool false), (29, .bool false), (30, .bool false), (31, .int .i64 2), (32, .bool true), (33, .bool false), (34, .bool false), (35, .pointer (some ⟨n, 0, none⟩)), (36, .int .i64 0), (37, .int .i64 2), (38, .pointer (some ⟨n, 0, none⟩)), (39, .pointer (some ⟨n, 2, none⟩)), (40, .pointer (some ⟨n, 2, none⟩)), (41, .pointer (some ⟨n, 4, none⟩)), (42, .int .i64 c0)] ⟨rfl, rfl, rfl, rfl, rfl, rfl, rfl, rfl, rfl, rfl, rfl, rfl, rfl, rfl, rfl, rfl, rfl, rfl, rfl, rfl, rfl, rfl, rfl, rfl, rfl, rfl, rfl, rfl, rfl, trivial⟩ ?_
  refine To.thenN ?_
  refine To.seq ?_
  refine To.seq ?_
  refine To.as [box n (netC (c0 + 1) c1 mp) 104, ros encI A xs] rfl ?_
  refine To.reg ?_
  refine To.rd rfl rfl rfl (Rd.move rfl rfl) ?_
  refine To.rd rfl rfl rfl (Rd.move rfl rfl) ?_
  refine To.rd rfl rfl rfl (Rd.move rfl rfl) ?_
  refine To.rd rfl rfl rfl (Rd.move rfl rfl) ?_
  refine To.rd rfl rfl rfl (Rd.build (vs := [(0, .int .i64 0), (1, .int .i64 2), (2, .int .i64 c0)]) (cells := [.int .i64 0, .int .i64 2, .int .i64 c0]) rfl rfl rfl (by kernel_rfl)) ?_
  refine To.callV rfl rfl rfl (Ent.fn rfl rfl ca50) (held_fn n (c0 + 1) (c1) 0 2 c0 mp) rfl (oks_cons (oks_box 0 rfl) (oks_nil _)) ?_
  refine To.nil ?_
  refine To.thenN ?_
  refine To.condF rfl ?_
  refine To.skip ?_
  refine To.thenN ?_
  refine To.seq ?_
  refine To.seq ?_
  refine To.reg ?_
  refine To.rd rfl rfl rfl (Rd.move rfl rfl) ?_
  refine To.rd rfl rfl rfl (Rd.move rfl rfl) ?_
  refine To.rd rfl rfl rfl (Rd.move rfl rfl) ?_
  refine To.rd rfl rfl rfl (Rd.move rfl rfl) ?_
  refine To.callV rfl rfl rfl (Ent.fn rfl rfl ca53) (ntake_fn n (c0 + 1) (c1) 5 0 2 c0 mp) rfl (oks_cons (oks_box 0 rfl) (oks_nil _)) ?_
  refine To.rd rfl rfl rfl (Rd.move rfl rfl) ?_
  refine To.rd rfl rfl rfl (Rd.extract rfl rfl rfl) ?_
  refine To.rd rfl rfl rfl (Rd.extract rfl rfl rfl) ?_
  refine To.alloc rfl rfl rfl rfl z116 (fun b16 => ?_)
  refine To.up rfl rfl (Up.storeS (i := 0) rfl rfl rfl r116 rfl rfl rfl (box_takesAll rfl)) ?_
  refine To.rd rfl rfl rfl (Rd.assign rfl rfl) ?_
  refine To.nil ?_
  refine To.thenN ?_
  refine To.seq ?_
  refine To.reg ?_
  refine To.rd rfl rfl rfl (Rd.move rfl rfl) ?_
  refine To.nil ?_
  refine To.thenN ?_
  refine To.condF rfl ?_
  refine To.skip ?_
  refine To.thenN ?_
  refine To.seq ?_
  refine To.reg ?_
  refine To.rd rfl rfl rfl (Rd.move rfl rfl) ?_
  refine To.rd rfl rfl rfl (Rd.move rfl rfl) ?_
  refine To.rd rfl rfl rfl (Rd.max rfl rfl rfl) ?_
  refine To.rd rfl rfl rfl (Rd.add64 rfl rfl rfl (by omega)) ?_
  refine To.rd rfl rfl rfl (Rd.assign rfl rfl) ?_
  refine To.nil ?_
  refine To.thenN ?_
  refine To.seq ?_
  refine To.seq ?_
  refine To.reg ?_
  refine To.rd rfl rfl rfl (Rd.move rfl rfl) ?_
  refine To.rd rfl rfl rfl (Rd.move rfl rfl) ?_
  refine To.rd rfl rfl rfl (Rd.move rfl rfl) ?_
  refine To.rd rfl rfl rfl (Rd.move rfl rfl) ?_
  refine To.callV rfl rfl rfl (Ent.fn rfl rfl ca53) (ntake_fn n (c0 + 1) (c1) 6 0 2 c0 mp) rfl (oks_cons (oks_box 1 rfl) (oks_nil _)) ?_
  refine To.rd rfl rfl rfl (Rd.move rfl rfl) ?_
  refine To.rd rfl rfl rfl (Rd.extract rfl rfl rfl) ?_
  refine To.rd rfl rfl rfl (Rd.extract rfl rfl rfl) ?_
  refine To.alloc rfl rfl rfl rfl z116 (fun b19 => ?_)
  refine To.up rfl rfl (Up.storeS (i := 0) rfl rfl rfl r116 rfl rfl rfl (box_takesAll rfl)) ?_
  refine To.rd rfl rfl rfl (Rd.assign rfl rfl) ?_
  refine To.nil ?_
  refine To.thenN ?_
  refine To.seq ?_
  refine To.reg ?_
  refine To.rd rfl rfl rfl (Rd.move rfl rfl) ?_
  refine To.nil ?_
  refine To.thenN ?_
  refine To.condF rfl ?_
  refine To.skip ?_
  refine To.thenN ?_
  refine To.seq ?_
  refine To.nilRow Arr.cells 76 3 ?_
  refine To.reg ?_
  refine To.rd rfl rfl rfl (Rd.move rfl rfl) ?_
  refine To.rd rfl rfl rfl (Rd.move rfl rfl) ?_
  refine To.rd rfl rfl rfl (Rd.move rfl rfl) ?_
  refine To.rd rfl rfl rfl (Rd.move rfl rfl) ?_
  refine To.rd rfl rfl rfl (Rd.build (vs := [(0, .int .i64 (tick + (max lat 1))), (1, .int .i64 0), (2, .slice A xs.length q)]) (cells := [.int .i64 (tick + (max lat 1)), .int .i64 0, .slice A xs.length q]) rfl rfl rfl (by kernel_rfl)) ?_
  refine To.callQ rfl rfl rfl (Ent.fn rfl rfl ca51) (cloneArr_fn (tick + max lat 1) 0 A q xs hl) rfl (oks_cons (oks_at 4 rfl) (oks_nil _)) ?_
  rintro _ _ ⟨A1, q1, rfl, rfl⟩
  refine ⟨rfl, ?_⟩
  refine To.as [rows encI 2 1 A1 q1 xs, rows Arr.cells 76 3 none 0 ([] : List Arr), box b19 [.int .u8 0, .int .i64 0, .int .i64 0, .int .i64 0, .int .i64 0, .int .i64 0, .slice none 0 0] 116, box b16 [.int .u8 0, .int .i64 0, .int .i64 0, .int .i64 0, .int .i64 0, .int .i64 0, .slice none 0 0] 116, box n (netC (c0 + 1) c1 mp) 104, ros encI A xs] rfl ?_
  refine To.mk rfl rfl rfl (Mk.sliceN (us := [.int .i64 (tick + max lat 1), .int .i64 0, .slice A1 xs.length q1]) rfl s72 rfl rfl rfl rfl rfl rfl) ?_
  rintro _ _ ⟨b96, rfl, rfl⟩
  refine To.as [row 76 3 (some ⟨b96, 0, none⟩) 1 1 [.int .i64 (tick + max lat 1), .int .i64 0, .slice A1 xs.length q1], rows encI 2 1 A1 q1 xs, rows Arr.cells 76 3 none 0 ([] : List Arr), box b19 [.int .u8 0, .int .i64 0, .int .i64 0, .int .i64 0, .int .i64 0, .int .i64 0, .slice none 0 0] 116, box b16 [.int .u8 0, .int .i64 0, .int .i64 0, .int .i64 0, .int .i64 0, .int .i64 0, .slice none 0 0] 116, box n (netC (c0 + 1) c1 mp) 104, ros encI A xs] rfl ?_
  refine To.ge rfl rfl rfl (Ge.append1 encAr (i := 2) (j := 0) (el := (Arr.mk (tick + max lat 1) 0 xs A1 q1)) rfl s72 rfl rfl rfl rfl rfl (by first | omega | (simp only [List.length_append, List.length_cons, List.length_nil]; omega)) (by first | omega | (simp only [List.length_append, List.length_cons, List.length_nil]; omega))) ?_
  rintro _ _ ⟨A97, q97, rfl, rfl⟩
  refine To.as [row 76 3 (some ⟨b96, 0, none⟩) 1 1 [.int .i64 (tick + max lat 1), .int .i64 0, .slice A1 xs.length q1], rows encI 2 1 A1 q1 xs, rows Arr.cells 76 3 A97 q97 (([] : List Arr) ++ [(Arr.mk (tick + max lat 1) 0 xs A1 q1)]), box b19 [.int .u8 0, .int .i64 0, .int .i64 0, .int .i64 0, .int .i64 0, .int .i64 0, .slice none 0 0] 116, box b16 [.int .u8 0, .int .i64 0, .int .i64 0, .int .i64 0, .int .i64 0, .int .i64 0, .slice none 0 0] 116, box n (netC (c0 + 1) c1 mp) 104, ros encI A xs] rfl ?_
  refine To.rd rfl rfl rfl (Rd.assign rfl rfl) ?_
  refine To.nil ?_
  refine To.thenN ?_
  refine To.seq ?_
  refine To.seq ?_
  refine To.reg ?_
  refine To.rd rfl rfl rfl (Rd.move rfl rfl) ?_
  refine To.rd rfl rfl rfl (Rd.move rfl rfl) ?_
  refine To.rd rfl rfl rfl (Rd.move rfl rfl) ?_
  refine To.rd rfl rfl rfl (Rd.move rfl rfl) ?_
  refine To.callV rfl rfl rfl (Ent.fn rfl rfl ca53) (ntake_fn n (c0 + 1) (c1) 7 0 2 c0 mp) rfl (oks_cons (oks_box 5 rfl) (oks_nil _)) ?_
  refine To.rd rfl rfl rfl (Rd.move rfl rfl) ?_
  refine To.rd rfl rfl rfl (Rd.extract rfl rfl rfl) ?_
  refine To.rd rfl rfl rfl (Rd.extract rfl rfl rfl) ?_
  refine To.alloc rfl rfl rfl rfl z116 (fun b21 => ?_)
  refine To.up rfl rfl (Up.storeS (i := 0) rfl rfl rfl r116 rfl rfl rfl (box_takesAll rfl)) ?_
  refine To.rd rfl rfl rfl (Rd.assign rfl rfl) ?_
  refine To.nil ?_
  refine To.thenN ?_
  refine To.seq ?_
  refine To.reg ?_
  refine To.rd rfl rfl rfl (Rd.move rfl rfl) ?_
  refine To.nil ?_
  refine To.thenN ?_
  refine To.condF rfl ?_
  refine To.skip ?_
  refine To.thenN ?_
  refine To.seq ?_
  refine To.reg ?_
  refine To.rd rfl rfl rfl (Rd.move rfl rfl) ?_
  refine To.rd rfl rfl rfl (Rd.move rfl rfl) ?_
  refine To.rd rfl rfl rfl (Rd.assign rfl rfl) ?_
  refine To.rd rfl rfl rfl (Rd.assign rfl rfl) ?_
  refine To.nil ?_
  refine To.thenN ?_
  refine To.ret ?_
  refine To.only [6, 3, 2] rfl ?_
  refine To.end2 (.inl rfl) Try.results30 rfl rfl ?_
  exact ⟨A1, q1, _, _, rfl, rfl⟩
set_option maxHeartbeats 2000000 in
set_option maxRecDepth 100000 in
theorem send1_fn (n : Nat) (c0 c1 tick lat : Int) (mp : Value) (A : Option Addr) (q : Nat) (xs : List Int) (hl : xs.length ≤ 1000000) (h0 : 0 ≤ c0 ∧ c0 ≤ 1000000) (h1 : 0 ≤ c1 ∧ c1 ≤ 1000000) (ht : 0 ≤ tick ∧ tick ≤ 1000000) (hla : 0 ≤ lat ∧ lat ≤ 1000000) :
    Does Try.prog 30 [.pointer (some ⟨n, 0, none⟩), .int .i64 1, .int .i64 2, .int .i64 0, .slice A xs.length q, .int .i64 tick, .int .i64 lat] [box n (netC c0 c1 mp) 104, ros encI A xs] (fun v Γ' => ∃ A1 q1 A2 q2, v = .tuple #[.int .i64 c1, .slice A2 1 q2] ∧ Γ' = [box n (netC (c0) (c1 + 1) mp) 104, rows Arr.cells 76 3 A2 q2 [Arr.mk (tick + max lat 1) 0 xs A1 q1], rows encI 2 1 A1 q1 xs]) := by
  refine Does.enter Try.func30 rfl Try.ntmps30 rfl (fun w0 => ?_)
  refine To.seq ?_
  refine To.reg ?_
  refine To.rd rfl rfl rfl (Rd.assign rfl rfl) ?_
  refine To.rd rfl rfl rfl (Rd.assign rfl rfl) ?_
  refine To.nil ?_
  refine To.thenN ?_
  refine To.seq ?_
  refine To.seq ?_
  refine To.reg ?_
  refine To.rd rfl rfl rfl (Rd.move rfl rfl) ?_
  refine To.rd rfl rfl rfl (Rd.eqlNil rfl Try.underlying66 rfl rfl) ?_
  refine To.rd rfl rfl rfl (Rd.move rfl rfl) ?_
  refine To.rd rfl rfl rfl (Rd.move rfl rfl) ?_
  refine To.callV rfl rfl rfl (Ent.fn rfl rfl ca52) (component_fn 1 (by omega)) rfl (oks_nil _) ?_
  refine To.rd rfl rfl rfl (Rd.not rfl rfl) ?_
  refine To.rd rfl rfl rfl (Rd.pickF rfl rfl rfl) ?_
  refine To.rd rfl rfl rfl (Rd.move rfl rfl) ?_
  refine To.rd rfl rfl rfl (Rd.move rfl rfl) ?_
  refine To.callV rfl rfl rfl (Ent.fn rfl rfl ca52) (component_fn 2 (by omega)) rfl (oks_nil _) ?_
  refine To.rd rfl rfl rfl (Rd.not rfl rfl) ?_
  refine To.rd rfl rfl rfl (Rd.pickF rfl rfl rfl) ?_
  refine To.nil ?_
  refine To.thenN ?_
  refine To.condF rfl ?_
  refine To.skip ?_
  refine To.thenN ?_
  refine To.seq ?_
  refine To.reg ?_
  refine To.rd rfl rfl rfl (Rd.move rfl rfl) ?_
  refine To.rd rfl rfl rfl (Rd.move rfl rfl) ?_
  refine To.rd rfl rfl rfl (Rd.move rfl rfl) ?_
  refine To.rd rfl rfl rfl (Rd.nilCheck rfl rfl) ?_
  refine To.rd rfl rfl rfl (Rd.field rfl rfl fl104_2) ?_
  refine To.rd rfl rfl rfl (Rd.indexArr (j := 1) rfl (ArrTy.of (size := 8) Try.underlying102 (by kernel_rfl)) rfl rfl (by decide)) ?_
  refine To.rd rfl rfl rfl (Rd.indexArr (j := 2) rfl (ArrTy.of (size := 1) Try.underlying101 (by kernel_rfl)) rfl rfl (by decide)) ?_
  refine To.rd rfl rfl rfl (Rd.load (i := 0) rfl rfl c3 rfl (box_gives1 rfl)) ?_
  refine To.rd rfl rfl rfl (Rd.assign rfl rfl) ?_
  refine To.nil ?_
  refine To.thenN ?_
  refine To.seq ?_
  refine To.flow [] [⟨0, [], 0⟩, ⟨1, [], 0⟩, ⟨2, [], 0⟩, ⟨3, [], 0⟩, ⟨4, [], 0⟩, ⟨9, [], 0⟩, ⟨10, [], 0⟩, ⟨5, [], 1⟩, ⟨6, [], 1⟩, ⟨7, [], 1⟩, ⟨8, [], 0⟩, ⟨11, [], 1⟩, ⟨12, [], 1⟩, ⟨13, [], 5⟩] mixed (by kernel_rfl) (oks_nil _) ?_
  refine FlowS.free rfl rfl rfl rfl (Rd.move rfl rfl) ?_
  refine FlowS.free rfl rfl rfl rfl (Rd.move rfl rfl) ?_
  refine FlowS.free rfl rfl rfl rfl (Rd.move rfl rfl) ?_
  refine FlowS.free rfl rfl rfl rfl (Rd.nilCheck rfl rfl) ?_
  refine FlowS.free rfl rfl rfl rfl (Rd.field rfl rfl fl104_2) ?_
  refine FlowS.free rfl rfl rfl rfl (Rd.nilCheck rfl rfl) ?_
  refine FlowS.free rfl rfl rfl rfl (Rd.field rfl rfl fl104_2) ?_
  refine FlowS.rd rfl rfl rfl rfl (Rd.indexArr (j := 1) rfl (ArrTy.of (size := 8) Try.underlying102 (by kernel_rfl)) rfl rfl (by decide)) ?_
  refine FlowS.rd rfl rfl rfl rfl (Rd.indexArr (j := 2) rfl (ArrTy.of (size := 1) Try.underlying101 (by kernel_rfl)) rfl rfl (by decide)) ?_
  refine FlowS.rd rfl rfl rfl rfl (Rd.load (i := 0) rfl rfl c3 rfl (box_gives1 rfl)) ?_
  refine FlowS.free rfl rfl rfl rfl (Rd.add64 rfl rfl rfl (by omega)) ?_
  refine FlowS.rd rfl rfl rfl rfl (Rd.indexArr (j := 1) rfl (ArrTy.of (size := 8) Try.underlying102 (by kernel_rfl)) rfl rfl (by decide)) ?_
  refine FlowS.rd rfl rfl rfl rfl (Rd.indexArr (j := 2) rfl (ArrTy.of (size := 1) Try.underlying101 (by kernel_rfl)) rfl rfl (by decide)) ?_
  refine FlowS.up (Γ' := [box n [.slice none 0 0, .slice none 0 0, .int .i64 0, .int .i64 0, .int .i64 c0, .int .i64 0, .int .i64 0, .int .i64 0, .int .i64 0, .int .i64 0, .int .i64 0, .int .i64 0, .int .i64 (c1 + 1), .int .i64 0, .int .i64 0, .int .i64 0, .int .i64 0, .int .i64 0, .int .i64 0, .int .i64 0, .int .i64 0, .int .i64 0, .int .i64 0, .int .i64 0, .int .i64 0, .int .i64 0, .int .i64 0, .int .i64 0, .int .i64 0, .int .i64 0, .int .i64 0, .int .i64 0, .int .i64 0, .int .i64 0, .int .i64 0, .int .i64 0, .int .i64 0, .int .i64 0, .int .i64 0, .int .i64 0, .int .i64 0, .int .i64 0, .int .i64 0, .int .i64 0, .int .i64 0, .int .i64 0, .int .i64 0, .int .i64 0, .int .i64 0, .int .i64 0, .int .i64 0, .int .i64 0, .int .i64 0, .int .i64 0, .int .i64 0, .int .i64 0, .int .i64 0, .int .i64 0, .int .i64 0, .int .i64 0, .int .i64 0, .int .i64 0, .int .i64 0, .int .i64 0, .int .i64 0, .int .i64 0, .int .i64 0, .int .i64 0, .int .i64 0, .int .i64 0, .int .i64 0, .int .i64 0, .int .i64 0, .int .i64 0, .int .i64 0, .int .i64 0, .int .i64 0, .int .i64 0, .int .i64 0, .int .i64 0, .int .i64 0, .int .i64 0, mp] 104, ros encI A xs]) rfl rfl rfl (Up.store (i := 0) rfl rfl rfl c3 rfl rfl (box_takes1 rfl)) (oks_nil _) ?_
  refine FlowS.fin ?_
  refine To.as [box n [.slice none 0 0, .slice none 0 0, .int .i64 0, .int .i64 0, .int .i64 c0, .int .i64 0, .int .i64 0, .int .i64 0, .int .i64 0, .int .i64 0, .int .i64 0, .int .i64 0, .int .i64 (c1 + 1), .int .i64 0, .int .i64 0, .int .i64 0, .int .i64 0, .int .i64 0, .int .i64 0, .int .i64 0, .int .i64 0, .int .i64 0, .int .i64 0, .int .i64 0, .int .i64 0, .int .i64 0, .int .i64 0, .int .i64 0, .int .i64 0, .int .i64 0, .int .i64 0, .int .i64 0, .int .i64 0, .int .i64 0, .int .i64 0, .int .i64 0, .int .i64 0, .int .i64 0, .int .i64 0, .int .i64 0, .int .i64 0, .int .i64 0, .int .i64 0, .int .i64 0, .int .i64 0, .int .i64 0, .int .i64 0, .int .i64 0, .int .i64 0, .int .i64 0, .int .i64 0, .int .i64 0, .int .i64 0, .int .i64 0, .int .i64 0, .int .i64 0, .int .i64 0, .int .i64 0, .int .i64 0, .int .i64 0, .int .i64 0, .int .i64 0, .int .i64 0, .int .i64 0, .int .i64 0, .int .i64 0, .int .i64 0, .int .i64 0, .int .i64 0, .int .i64 0, .int .i64 0, .int .i64 0, .int .i64 0, .int .i64 0, .int .i64 0, .int .i64 0, .int .i64 0, .int .i64 0, .int .i64 0, .int .i64 0, .int .i64 0, .int .i64 0, mp] 104, ros encI A xs] rfl ?_
  refine To.sub [(0, .pointer (some ⟨n, 0, none⟩)), (1, .int .i64 1), (2, .int .i64 2), (3, .int .i64 0), (4, .slice A xs.length q), (5, .int .i64 tick), (6, .int .i64 lat), (14, .int .i64 c1), (15, .slice none 0 0), (23, .pointer (some ⟨n, 0, none⟩)), (24, .bool false), (25, .bool false), (26, .int .i64 1), (27, .bool true), (28, .bool false), (29, .bool false), (30, .bool false), (31, .int .i64 2), (32, .bool true), (33, .bool false), (34, .bool false), (35, .pointer (some ⟨n, 0, none⟩)), (36, .int .i64 1), (37, .int .i64 2), (38, .pointer (some ⟨n, 0, none⟩)), (39, .pointer (some ⟨n, 2, none⟩)), (40, .pointer (some ⟨n, 10, none⟩)), (41, .pointer (some ⟨n, 12, none⟩)), (42, .int .i64 c1)] ⟨rfl, rfl, rfl, rfl, rfl, rfl, rfl, rfl, rfl, rfl, rfl, rfl, rfl, rfl, rfl, rfl, rfl, rfl, rfl, rfl, rfl, rfl, rfl, rfl, rfl, rfl, rfl, rfl, rfl, trivial⟩ ?_
  refine To.thenN ?_
  refine To.seq ?_
  refine To.seq ?_
  refine To.as [box n (netC c0 (c1 + 1) mp) 104, ros encI A xs] rfl ?_
  refine To.reg ?_
  refine To.rd rfl rfl rfl (Rd.move rfl rfl) ?_
  refine To.rd rfl rfl rfl (Rd.move rfl rfl) ?_
  refine To.rd rfl rfl rfl (Rd.move rfl rfl) ?_
  refine To.rd rfl rfl rfl (Rd.move rfl rfl) ?_
  refine To.rd rfl rfl rfl (Rd.build (vs := [(0, .int .i64 1), (1, .int .i64 2), (2, .int .i64 c1)]) (cells := [.int .i64 1, .int .i64 2, .int .i64 c1]) rfl rfl rfl (by kernel_rfl)) ?_
  refine To.callV rfl rfl rfl (Ent.fn rfl rfl ca50) (held_fn n (c0) (c1 + 1) 1 2 c1 mp) rfl (oks_cons (oks_box 0 rfl) (oks_nil _)) ?_
  refine To.nil ?_
  refine To.thenN ?_
  refine To.condF rfl ?_
  refine To.skip ?_
  refine To.thenN ?_
  refine To.seq ?_
  refine To.seq ?_
  refine To.reg ?_
  refine To.rd rfl rfl rfl (Rd.move rfl rfl) ?_
  refine To.rd rfl rfl rfl (Rd.move rfl rfl) ?_
  refine To.rd rfl rfl rfl (Rd.move rfl rfl) ?_
  refine To.rd rfl rfl rfl (Rd.move rfl rfl) ?_
  refine To.callV rfl rfl rfl (Ent.fn rfl rfl ca53) (ntake_fn n (c0) (c1 + 1) 5 1 2 c1 mp) rfl (oks_cons (oks_box 0 rfl) (oks_nil _)) ?_
  refine To.rd rfl rfl rfl (Rd.move rfl rfl) ?_
  refine To.rd rfl rfl rfl (Rd.extract rfl rfl rfl) ?_
  refine To.rd rfl rfl rfl (Rd.extract rfl rfl rfl) ?_
  refine To.alloc rfl rfl rfl rfl z116 (fun b16 => ?_)
  refine To.up rfl rfl (Up.storeS (i := 0) rfl rfl rfl r116 rfl rfl rfl (box_takesAll rfl)) ?_
  refine To.rd rfl rfl rfl (Rd.assign rfl rfl) ?_
  refine To.nil ?_
  refine To.thenN ?_
  refine To.seq ?_
  refine To.reg ?_
  refine To.rd rfl rfl rfl (Rd.move rfl rfl) ?_
  refine To.nil ?_
  refine To.thenN ?_
  refine To.condF rfl ?_
  refine To.skip ?_
  refine To.thenN ?_
  refine To.seq ?_
  refine To.reg ?_
  refine To.rd rfl rfl rfl (Rd.move rfl rfl) ?_
  refine To.rd rfl rfl rfl (Rd.move rfl rfl) ?_
  refine To.rd rfl rfl rfl (Rd.max rfl rfl rfl) ?_
  refine To.rd rfl rfl rfl (Rd.add64 rfl rfl rfl (by omega)) ?_
  refine To.rd rfl rfl rfl (Rd.assign rfl rfl) ?_
  refine To.nil ?_
  refine To.thenN ?_
  refine To.seq ?_
  refine To.seq ?_
  refine To.reg ?_
  refine To.rd rfl rfl rfl (Rd.move rfl rfl) ?_
  refine To.rd rfl rfl rfl (Rd.move rfl rfl) ?_
  refine To.rd rfl rfl rfl (Rd.move rfl rfl) ?_
  refine To.rd rfl rfl rfl (Rd.move rfl rfl) ?_
  refine To.callV rfl rfl rfl (Ent.fn rfl rfl ca53) (ntake_fn n (c0) (c1 + 1) 6 1 2 c1 mp) rfl (oks_cons (oks_box 1 rfl) (oks_nil _)) ?_
  refine To.rd rfl rfl rfl (Rd.move rfl rfl) ?_
  refine To.rd rfl rfl rfl (Rd.extract rfl rfl rfl) ?_
  refine To.rd rfl rfl rfl (Rd.extract rfl rfl rfl) ?_
  refine To.alloc rfl rfl rfl rfl z116 (fun b19 => ?_)
  refine To.up rfl rfl (Up.storeS (i := 0) rfl rfl rfl r116 rfl rfl rfl (box_takesAll rfl)) ?_
  refine To.rd rfl rfl rfl (Rd.assign rfl rfl) ?_
  refine To.nil ?_
  refine To.thenN ?_
  refine To.seq ?_
  refine To.reg ?_
  refine To.rd rfl rfl rfl (Rd.move rfl rfl) ?_
  refine To.nil ?_
  refine To.thenN ?_
  refine To.condF rfl ?_
  refine To.skip ?_
  refine To.thenN ?_
  refine To.seq ?_
  refine To.nilRow Arr.cells 76 3 ?_
  refine To.reg ?_
  refine To.rd rfl rfl rfl (Rd.move rfl rfl) ?_
  refine To.rd rfl rfl rfl (Rd.move rfl rfl) ?_
  refine To.rd rfl rfl rfl (Rd.move rfl rfl) ?_
  refine To.rd rfl rfl rfl (Rd.move rfl rfl) ?_
  refine To.rd rfl rfl rfl (Rd.build (vs := [(0, .int .i64 (tick + (max lat 1))), (1, .int .i64 0), (2, .slice A xs.length q)]) (cells := [.int .i64 (tick + (max lat 1)), .int .i64 0, .slice A xs.length q]) rfl rfl rfl (by kernel_rfl)) ?_
  refine To.callQ rfl rfl rfl (Ent.fn rfl rfl ca51) (cloneArr_fn (tick + max lat 1) 0 A q xs hl) rfl (oks_cons (oks_at 4 rfl) (oks_nil _)) ?_
  rintro _ _ ⟨A1, q1, rfl, rfl⟩
  refine ⟨rfl, ?_⟩
  refine To.as [rows encI 2 1 A1 q1 xs, rows Arr.cells 76 3 none 0 ([] : List Arr), box b19 [.int .u8 0, .int .i64 0, .int .i64 0, .int .i64 0, .int .i64 0, .int .i64 0, .slice none 0 0] 116, box b16 [.int .u8 0, .int .i64 0, .int .i64 0, .int .i64 0, .int .i64 0, .int .i64 0, .slice none 0 0] 116, box n (netC c0 (c1 + 1) mp) 104, ros encI A xs] rfl ?_
  refine To.mk rfl rfl rfl (Mk.sliceN (us := [.int .i64 (tick + max lat 1), .int .i64 0, .slice A1 xs.length q1]) rfl s72 rfl rfl rfl rfl rfl rfl) ?_
  rintro _ _ ⟨b96, rfl, rfl⟩
  refine To.as [row 76 3 (some ⟨b96, 0, none⟩) 1 1 [.int .i64 (tick + max lat 1), .int .i64 0, .slice A1 xs.length q1], rows encI 2 1 A1 q1 xs, rows Arr.cells 76 3 none 0 ([] : List Arr), box b19 [.int .u8 0, .int .i64 0, .int .i64 0, .int .i64 0, .int .i64 0, .int .i64 0, .slice none 0 0] 116, box b16 [.int .u8 0, .int .i64 0, .int .i64 0, .int .i64 0, .int .i64 0, .int .i64 0, .slice none 0 0] 116, box n (netC c0 (c1 + 1) mp) 104, ros encI A xs] rfl ?_
  refine To.ge rfl rfl rfl (Ge.append1 encAr (i := 2) (j := 0) (el := (Arr.mk (tick + max lat 1) 0 xs A1 q1)) rfl s72 rfl rfl rfl rfl rfl (by first | omega | (simp only [List.length_append, List.length_cons, List.length_nil]; omega)) (by first | omega | (simp only [List.length_append, List.length_cons, List.length_nil]; omega))) ?_
  rintro _ _ ⟨A97, q97, rfl, rfl⟩
  refine To.as [row 76 3 (some ⟨b96, 0, none⟩) 1 1 [.int .i64 (tick + max lat 1), .int .i64 0, .slice A1 xs.length q1], rows encI 2 1 A1 q1 xs, rows Arr.cells 76 3 A97 q97 (([] : List Arr) ++ [(Arr.mk (tick + max lat 1) 0 xs A1 q1)]), box b19 [.int .u8 0, .int .i64 0, .int .i64 0, .int .i64 0, .int .i64 0, .int .i64 0, .slice none 0 0] 116, box b16 [.int .u8 0, .int .i64 0, .int .i64 0, .int .i64 0, .int .i64 0, .int .i64 0, .slice none 0 0] 116, box n (netC c0 (c1 + 1) mp) 104, ros encI A xs] rfl ?_
  refine To.rd rfl rfl rfl (Rd.assign rfl rfl) ?_
  refine To.nil ?_
  refine To.thenN ?_
  refine To.seq ?_
  refine To.seq ?_
  refine To.reg ?_
  refine To.rd rfl rfl rfl (Rd.move rfl rfl) ?_
  refine To.rd rfl rfl rfl (Rd.move rfl rfl) ?_
  refine To.rd rfl rfl rfl (Rd.move rfl rfl) ?_
  refine To.rd rfl rfl rfl (Rd.move rfl rfl) ?_
  refine To.callV rfl rfl rfl (Ent.fn rfl rfl ca53) (ntake_fn n (c0) (c1 + 1) 7 1 2 c1 mp) rfl (oks_cons (oks_box 5 rfl) (oks_nil _)) ?_
  refine To.rd rfl rfl rfl (Rd.move rfl rfl) ?_
  refine To.rd rfl rfl rfl (Rd.extract rfl rfl rfl) ?_
  refine To.rd rfl rfl rfl (Rd.extract rfl rfl rfl) ?_
  refine To.alloc rfl rfl rfl rfl z116 (fun b21 => ?_)
  refine To.up rfl rfl (Up.storeS (i := 0) rfl rfl rfl r116 rfl rfl rfl (box_takesAll rfl)) ?_
  refine To.rd rfl rfl rfl (Rd.assign rfl rfl) ?_
  refine To.nil ?_
  refine To.thenN ?_
  refine To.seq ?_
  refine To.reg ?_
  refine To.rd rfl rfl rfl (Rd.move rfl rfl) ?_
  refine To.nil ?_
  refine To.thenN ?_
  refine To.condF rfl ?_
  refine To.skip ?_
  refine To.thenN ?_
  refine To.seq ?_
  refine To.reg ?_
  refine To.rd rfl rfl rfl (Rd.move rfl rfl) ?_
  refine To.rd rfl rfl rfl (Rd.move rfl rfl) ?_
  refine To.rd rfl rfl rfl (Rd.assign rfl rfl) ?_
  refine To.rd rfl rfl rfl (Rd.assign rfl rfl) ?_
  refine To.nil ?_
  refine To.thenN ?_
  refine To.ret ?_
  refine To.only [6, 3, 2] rfl ?_
  refine To.end2 (.inl rfl) Try.results30 rfl rfl ?_
  exact ⟨A1, q1, _, _, rfl, rfl⟩
theorem send_fn (n : Nat) (f c0 c1 tick lat : Int) (mp : Value) (A : Option Addr) (q : Nat) (xs : List Int) (hf : f = 0 ∨ f = 1) (hl : xs.length ≤ 1000000) (h0 : 0 ≤ c0 ∧ c0 ≤ 1000000) (h1 : 0 ≤ c1 ∧ c1 ≤ 1000000) (ht : 0 ≤ tick ∧ tick ≤ 1000000) (hla : 1 ≤ lat ∧ lat ≤ 1000000) :
    Does Try.prog 30 [.pointer (some ⟨n, 0, none⟩), .int .i64 f, .int .i64 2, .int .i64 0, .slice A xs.length q, .int .i64 tick, .int .i64 lat] [box n (netC c0 c1 mp) 104, ros encI A xs] (fun v Γ' => ∃ A1 q1 A2 q2, v = .tuple #[.int .i64 (if f = 0 then c0 else c1), .slice A2 1 q2] ∧ Γ' = [box n (netC (if f = 0 then c0 + 1 else c0) (if f = 0 then c1 else c1 + 1) mp) 104, rows Arr.cells 76 3 A2 q2 [Arr.mk (tick + lat) 0 xs A1 q1], rows encI 2 1 A1 q1 xs]) := by
  have e : max lat 1 = lat := by omega
  rcases hf with rfl | rfl
  · have h := send0_fn n c0 c1 tick lat mp A q xs hl h0 h1 ht (by omega)
    rw [e] at h
    simpa using h
  · have h := send1_fn n c0 c1 tick lat mp A q xs hl h0 h1 ht (by omega)
    rw [e] at h
    simpa using h
end Go.Proofs.Ytnamppkicefbjaa

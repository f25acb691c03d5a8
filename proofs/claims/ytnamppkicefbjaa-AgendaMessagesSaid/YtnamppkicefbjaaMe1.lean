/- The walks of a network without choices and holds. Own text (walks printed by sx.py). -/
import Derived.Test.YtnamppkicefbjaaB1
import Derived.Test.YtnamppkicefbjaaSepy
namespace Go.Proofs.Ytnamppkicefbjaa
open Go.RowKit Go.Flow Go.Mem Go.Sep
def netC (c0 c1 : Int) (mp : Value) : List Value := [.slice none 0 0, .slice none 0 0, .int .i64 0, .int .i64 0, .int .i64 c0, .int .i64 0, .int .i64 0, .int .i64 0, .int .i64 0, .int .i64 0, .int .i64 0, .int .i64 0, .int .i64 c1, .int .i64 0, .int .i64 0, .int .i64 0, .int .i64 0, .int .i64 0, .int .i64 0, .int .i64 0, .int .i64 0, .int .i64 0, .int .i64 0, .int .i64 0, .int .i64 0, .int .i64 0, .int .i64 0, .int .i64 0, .int .i64 0, .int .i64 0, .int .i64 0, .int .i64 0, .int .i64 0, .int .i64 0, .int .i64 0, .int .i64 0, .int .i64 0, .int .i64 0, .int .i64 0, .int .i64 0, .int .i64 0, .int .i64 0, .int .i64 0, .int .i64 0, .int .i64 0, .int .i64 0, .int .i64 0, .int .i64 0, .int .i64 0, .int .i64 0, .int .i64 0, .int .i64 0, .int .i64 0, .int .i64 0, .int .i64 0, .int .i64 0, .int .i64 0, .int .i64 0, .int .i64 0, .int .i64 0, .int .i64 0, .int .i64 0, .int .i64 0, .int .i64 0, .int .i64 0, .int .i64 0, .int .i64 0, .int .i64 0, .int .i64 0, .int .i64 0, .int .i64 0, .int .i64 0, .int .i64 0, .int .i64 0, .int .i64 0, .int .i64 0, .int .i64 0, .int .i64 0, .int .i64 0, .int .i64 0, .int .i64 0, .int .i64 0, mp]
structure Arr where
  at_ : Int
  h : Int
  args : List Int
  A : Option Addr
  cap : Nat
def Arr.cells (e : Arr) : List Value := [.int .i64 e.at_, .int .i64 e.h, .slice e.A e.args.length e.cap]
theorem encAr : Enc Arr.cells 3 := ⟨fun _ => rfl, fun e u hu => by
  simp only [Arr.cells, List.mem_cons, List.not_mem_nil, or_false] at hu
  rcases hu with rfl | rfl | rfl <;> rfl⟩
set_option maxHeartbeats 2000000 in
set_option maxRecDepth 100000 in
theorem component_fn (c : Int) (hc : 0 ≤ c ∧ c < 8) :
    Does Try.prog 52 [.int .i64 c] [] (fun v _ => v = .bool true) := by
  refine Does.enter Try.func52 rfl Try.ntmps52 rfl (fun w0 => ?_)
  refine To.seq ?_
  refine To.reg ?_
  refine To.rd rfl rfl rfl (Rd.assign rfl rfl) ?_
  refine To.nil ?_
  refine To.thenN ?_
  refine To.seq ?_
  refine To.reg ?_
  refine To.rd rfl rfl rfl (Rd.move rfl rfl) ?_
  refine To.rd rfl rfl rfl (Rd.leq rfl rfl rfl) ?_
  refine To.rdP rfl rfl rfl (Rd.move rfl rfl) (fun g5 => ?_) (fun g5 => ?_)
  ·
    refine To.rd rfl rfl rfl (Rd.move rfl rfl) ?_
    refine To.rd rfl rfl rfl (Rd.lss rfl rfl rfl) ?_
    refine To.rd rfl rfl rfl (Rd.pickT rfl rfl rfl) ?_
    refine To.rd rfl rfl rfl (Rd.assign rfl rfl) ?_
    refine To.nil ?_
    refine To.thenN ?_
    refine To.ret ?_
    refine To.end1 (.inl rfl) Try.results52 rfl ?_
    rw [decide_eq_true hc.2]
  ·
    exact absurd hc.1 g5
set_option maxHeartbeats 2000000 in
set_option maxRecDepth 100000 in
theorem index0_fn (b : Nat) :
    Does Try.prog 67 [.slice none 0 0, .func (.func 62) #[] #[.pointer (some ⟨b, 0, none⟩)]] [] (fun v _ => v = .int .i64 (-1)) := by
  refine Does.enter Try.func67 rfl Try.ntmps67 rfl (fun w0 => ?_)
  refine To.seq ?_
  refine To.reg ?_
  refine To.rd rfl rfl rfl (Rd.assign rfl rfl) ?_
  refine To.nil ?_
  refine To.thenN ?_
  refine To.seq ?_
  refine To.seq ?_
  refine To.reg ?_
  refine To.rd rfl rfl rfl (Rd.move rfl rfl) ?_
  refine To.rd rfl rfl rfl (Rd.len rfl rfl Try.underlying99) ?_
  refine To.rd rfl rfl rfl (Rd.move rfl rfl) ?_
  refine To.nil ?_
  refine To.thenN ?_
  refine To.block ?_
  refine To.loopOnce ?_
  refine To.seq ?_
  refine To.reg ?_
  refine To.rd rfl rfl rfl (Rd.lss rfl rfl rfl) ?_
  refine To.nil ?_
  refine To.thenN ?_
  refine To.seq ?_
  refine To.condF rfl ?_
  refine To.exit ?_
  refine To.thenX ?_
  refine To.thenX ?_
  refine To.blockX ?_
  refine To.thenN ?_
  refine To.seq ?_
  refine To.reg ?_
  refine To.rd rfl rfl rfl (Rd.assign rfl rfl) ?_
  refine To.nil ?_
  refine To.thenN ?_
  refine To.ret ?_
  refine To.end1 (.inl rfl) Try.results67 rfl ?_
  rfl
set_option maxHeartbeats 2000000 in
set_option maxRecDepth 100000 in
theorem contains0_fn (b : Nat) :
    Does Try.prog 61 [.slice none 0 0, .func (.func 62) #[] #[.pointer (some ⟨b, 0, none⟩)]] [] (fun v _ => v = .bool false) := by
  refine Does.enter Try.func61 rfl Try.ntmps61 rfl (fun w0 => ?_)
  refine To.seq ?_
  refine To.reg ?_
  refine To.rd rfl rfl rfl (Rd.assign rfl rfl) ?_
  refine To.nil ?_
  refine To.thenN ?_
  refine To.seq ?_
  refine To.reg ?_
  refine To.rd rfl rfl rfl (Rd.move rfl rfl) ?_
  refine To.rd rfl rfl rfl (Rd.move rfl rfl) ?_
  refine To.callV rfl rfl rfl (Ent.fn rfl rfl ca67) (index0_fn b) rfl (oks_nil _) ?_
  refine To.rd rfl rfl rfl (Rd.geq rfl rfl rfl) ?_
  refine To.rd rfl rfl rfl (Rd.assign rfl rfl) ?_
  refine To.nil ?_
  refine To.thenN ?_
  refine To.ret ?_
  refine To.end1 (.inl rfl) Try.results61 rfl ?_
  rfl
set_option maxHeartbeats 2000000 in
set_option maxRecDepth 100000 in
theorem held_fn (n : Nat) (c0 c1 f t k : Int) (mp : Value) :
    Does Try.prog 50 [.pointer (some ⟨n, 0, none⟩), .agg #[.int .i64 f, .int .i64 t, .int .i64 k]] [ro (some ⟨n, 0, none⟩) (netC c0 c1 mp)] (fun v _ => v = .bool false) := by
  refine Does.enter Try.func50 rfl Try.ntmps50 rfl (fun w0 => ?_)
  refine To.seq ?_
  refine To.reg ?_
  refine To.boxed rfl rfl rfl rfl rfl rfl (fun b3 => ?_)
  refine To.rd rfl rfl rfl (Rd.assign rfl rfl) ?_
  refine To.nil ?_
  refine To.thenN ?_
  refine To.seq ?_
  refine To.reg ?_
  refine To.rd rfl rfl rfl (Rd.move rfl rfl) ?_
  refine To.rd rfl rfl rfl (Rd.nilCheck rfl rfl) ?_
  refine To.rd rfl rfl rfl (Rd.field rfl rfl fl104_1) ?_
  refine To.rd rfl rfl rfl (Rd.load (i := 1) rfl rfl c99 rfl (ro_gives (A := some ⟨n, 0, none⟩) (o := 1) (k := 1) rfl)) ?_
  refine To.rd rfl rfl rfl (Rd.makeFunc rfl rfl rfl) ?_
  refine To.callV rfl rfl rfl (Ent.fn rfl rfl ca61) (contains0_fn b3) rfl (oks_nil _) ?_
  refine To.rd rfl rfl rfl (Rd.assign rfl rfl) ?_
  refine To.nil ?_
  refine To.thenN ?_
  refine To.ret ?_
  refine To.end1 (.inl rfl) Try.results50 rfl ?_
  rfl
set_option maxHeartbeats 2000000 in
set_option maxRecDepth 100000 in
theorem search0_fn (kd ka kb kn : Int) :
    Does Try.prog 71 [.slice none 0 0, .agg #[.int .u8 kd, .int .i64 ka, .int .i64 kb, .int .i64 kn], .func (.func 72) #[] #[]] [] (fun v _ => v = .tuple #[.int .i64 0, .bool false]) := by
  refine Does.enter Try.func71 rfl Try.ntmps71 rfl (fun w0 => ?_)
  refine To.seq ?_
  refine To.reg ?_
  refine To.boxed rfl rfl rfl rfl rfl rfl (fun b4 => ?_)
  refine To.rd rfl rfl rfl (Rd.assign rfl rfl) ?_
  refine To.rd rfl rfl rfl (Rd.assign rfl rfl) ?_
  refine To.nil ?_
  refine To.thenN ?_
  refine To.seq ?_
  refine To.reg ?_
  refine To.rd rfl rfl rfl (Rd.move rfl rfl) ?_
  refine To.rd rfl rfl rfl (Rd.len rfl rfl Try.underlying69) ?_
  refine To.rd rfl rfl rfl (Rd.assign rfl rfl) ?_
  refine To.nil ?_
  refine To.thenN ?_
  refine To.seq ?_
  refine To.reg ?_
  refine To.rd rfl rfl rfl (Rd.move rfl rfl) ?_
  refine To.rd rfl rfl rfl (Rd.assign rfl rfl) ?_
  refine To.rd rfl rfl rfl (Rd.assign rfl rfl) ?_
  refine To.nil ?_
  refine To.thenN ?_
  refine To.seq ?_
  refine To.block ?_
  refine To.loopOnce ?_
  refine To.seq ?_
  refine To.seq ?_
  refine To.reg ?_
  refine To.rd rfl rfl rfl (Rd.move rfl rfl) ?_
  refine To.rd rfl rfl rfl (Rd.move rfl rfl) ?_
  refine To.rd rfl rfl rfl (Rd.lss rfl rfl rfl) ?_
  refine To.nil ?_
  refine To.thenN ?_
  refine To.condF rfl ?_
  refine To.exit ?_
  refine To.thenX ?_
  refine To.thenX ?_
  refine To.blockX ?_
  refine To.thenN ?_
  refine To.seq ?_
  refine To.flow [] [⟨0, [], 0⟩, ⟨1, [], 0⟩, ⟨2, [], 0⟩, ⟨3, [], 0⟩, ⟨4, [], 0⟩, ⟨5, [], 0⟩, ⟨6, [], 0⟩, ⟨7, [], 0⟩, ⟨8, [], 1⟩, ⟨9, [], 1⟩, ⟨10, [], 1⟩, ⟨11, [], 3⟩, ⟨12, [], 0⟩, ⟨13, [], 0⟩, ⟨14, [], 0⟩, ⟨15, [], 0⟩] mixed (by kernel_rfl) (oks_nil _) ?_
  refine FlowS.free rfl rfl rfl rfl (Rd.move rfl rfl) ?_
  refine FlowS.free rfl rfl rfl rfl (Rd.move rfl rfl) ?_
  refine FlowS.free rfl rfl rfl rfl (Rd.move rfl rfl) ?_
  refine FlowS.free rfl rfl rfl rfl (Rd.lss rfl rfl rfl) ?_
  refine FlowS.free rfl rfl rfl rfl (Rd.move rfl rfl) ?_
  refine FlowS.skip (by decide) rfl rfl rfl rfl ?_
  refine FlowS.skip (by decide) rfl rfl rfl rfl ?_
  refine FlowS.skip (by decide) rfl rfl rfl rfl ?_
  refine FlowS.skip (by decide) rfl rfl rfl rfl ?_
  refine FlowS.skip (by decide) rfl rfl rfl rfl ?_
  refine FlowS.skip (by decide) rfl rfl rfl rfl ?_
  refine FlowS.skip (by decide) rfl rfl rfl rfl ?_
  refine FlowS.skip (by decide) rfl rfl rfl rfl ?_
  refine FlowS.free rfl rfl rfl rfl (Rd.pickF rfl rfl rfl) ?_
  refine FlowS.free rfl rfl rfl rfl (Rd.assign rfl rfl) ?_
  refine FlowS.free rfl rfl rfl rfl (Rd.assign rfl rfl) ?_
  refine FlowS.fin ?_
  refine To.as [box b4 [.int .u8 kd, .int .i64 ka, .int .i64 kb, .int .i64 kn] 114] rfl ?_
  refine To.sub [(0, .slice none 0 0), (1, .agg #[.int .u8 kd, .int .i64 ka, .int .i64 kb, .int .i64 kn]), (2, .func (.func 72) #[] #[]), (4, .pointer (some ⟨b4, 0, none⟩)), (6, .int .i64 0), (7, .bool false), (12, .slice none 0 0), (13, .int .i64 ((0 : Nat) : Int)), (8, .int .i64 ((0 : Nat) : Int)), (14, .int .i64 ((0 : Nat) : Int)), (9, .int .i64 0), (10, .int .i64 ((0 : Nat) : Int)), (15, .int .i64 0), (16, .int .i64 ((0 : Nat) : Int)), (17, .bool false)] ⟨rfl, rfl, rfl, rfl, rfl, rfl, rfl, rfl, rfl, rfl, rfl, rfl, rfl, rfl, rfl, trivial⟩ ?_
  refine To.thenN ?_
  refine To.ret ?_
  refine To.end2 (.inl rfl) Try.results71 rfl rfl ?_
  rfl
set_option maxHeartbeats 2000000 in
set_option maxRecDepth 100000 in
theorem find0_fn (kd ka kb kn : Int) :
    Does Try.prog 68 [.agg #[.slice none 0 0], .agg #[.int .u8 kd, .int .i64 ka, .int .i64 kb, .int .i64 kn]] [] (fun v _ => v = .tuple #[.int .i64 0, .bool false]) := by
  refine Does.enter Try.func68 rfl Try.ntmps68 rfl (fun w0 => ?_)
  refine To.seq ?_
  refine To.reg ?_
  refine To.boxed rfl rfl rfl rfl rfl rfl (fun b2 => ?_)
  refine To.boxed rfl rfl rfl rfl rfl rfl (fun b3 => ?_)
  refine To.rd rfl rfl rfl (Rd.assign rfl rfl) ?_
  refine To.rd rfl rfl rfl (Rd.assign rfl rfl) ?_
  refine To.nil ?_
  refine To.thenN ?_
  refine To.seq ?_
  refine To.reg ?_
  refine To.rd rfl rfl rfl (Rd.field rfl rfl fl71_0) ?_
  refine To.rd rfl rfl rfl (Rd.load (i := 1) rfl rfl c69 rfl (box_gives1 rfl)) ?_
  refine To.rd rfl rfl rfl (Rd.loadS (i := 0) rfl rfl r114 rfl box_whole rfl) ?_
  refine To.callV rfl rfl rfl (Ent.fn rfl rfl ca71) (search0_fn kd ka kb kn) rfl (oks_nil _) ?_
  refine To.rd rfl rfl rfl (Rd.extract rfl rfl rfl) ?_
  refine To.rd rfl rfl rfl (Rd.extract rfl rfl rfl) ?_
  refine To.rd rfl rfl rfl (Rd.assign rfl rfl) ?_
  refine To.rd rfl rfl rfl (Rd.assign rfl rfl) ?_
  refine To.nil ?_
  refine To.thenN ?_
  refine To.ret ?_
  refine To.end2 (.inl rfl) Try.results68 rfl rfl ?_
  rfl
set_option maxHeartbeats 2000000 in
set_option maxRecDepth 100000 in
theorem get0_fn (kd ka kb kn : Int) :
    Does Try.prog 63 [.agg #[.slice none 0 0], .agg #[.int .u8 kd, .int .i64 ka, .int .i64 kb, .int .i64 kn]] [] (fun v _ => v = .tuple #[.agg #[.int .u8 0, .int .i64 0, .int .i64 0, .int .i64 0, .int .i64 0, .int .i64 0, .slice none 0 0], .bool false]) := by
  refine Does.enter Try.func63 rfl Try.ntmps63 rfl (fun w0 => ?_)
  refine To.seq ?_
  refine To.reg ?_
  refine To.boxed rfl rfl rfl rfl rfl rfl (fun b2 => ?_)
  refine To.boxed rfl rfl rfl rfl rfl rfl (fun b3 => ?_)
  refine To.alloc rfl rfl rfl rfl z116 (fun b4 => ?_)
  refine To.rd rfl rfl rfl (Rd.assign rfl rfl) ?_
  refine To.nil ?_
  refine To.thenN ?_
  refine To.seq ?_
  refine To.reg ?_
  refine To.rd rfl rfl rfl (Rd.loadS (i := 2) rfl rfl r71 rfl box_whole rfl) ?_
  refine To.rd rfl rfl rfl (Rd.loadS (i := 1) rfl rfl r114 rfl box_whole rfl) ?_
  refine To.callV rfl rfl rfl (Ent.fn rfl rfl ca68) (find0_fn kd ka kb kn) rfl (oks_nil _) ?_
  refine To.rd rfl rfl rfl (Rd.move rfl rfl) ?_
  refine To.rd rfl rfl rfl (Rd.extract rfl rfl rfl) ?_
  refine To.rd rfl rfl rfl (Rd.extract rfl rfl rfl) ?_
  refine To.rd rfl rfl rfl (Rd.assign rfl rfl) ?_
  refine To.rd rfl rfl rfl (Rd.assign rfl rfl) ?_
  refine To.nil ?_
  refine To.thenN ?_
  refine To.seq ?_
  refine To.seq ?_
  refine To.reg ?_
  refine To.rd rfl rfl rfl (Rd.move rfl rfl) ?_
  refine To.rd rfl rfl rfl (Rd.not rfl rfl) ?_
  refine To.nil ?_
  refine To.thenN ?_
  refine To.condT rfl ?_
  refine To.seq ?_
  refine To.reg ?_
  refine To.rd rfl rfl rfl (Rd.build (vs := []) (cells := [.int .u8 0, .int .i64 0, .int .i64 0, .int .i64 0, .int .i64 0, .int .i64 0, .slice none 0 0]) rfl rfl rfl (by kernel_rfl)) ?_
  refine To.up rfl rfl (Up.storeS (i := 0) rfl rfl rfl r116 rfl rfl rfl (box_takesAll rfl)) ?_
  refine To.rd rfl rfl rfl (Rd.assign rfl rfl) ?_
  refine To.nil ?_
  refine To.thenN ?_
  refine To.ret ?_
  refine To.thenR ?_
  refine To.endCT [] rfl (.inl rfl) Try.results63 rfl (i := 0) rfl r116 rfl rfl ?_
  rfl
set_option maxHeartbeats 2000000 in
set_option maxRecDepth 100000 in
theorem ntake_fn (n : Nat) (c0 c1 kd ka kb kn : Int) (mp : Value) :
    Does Try.prog 53 [.pointer (some ⟨n, 0, none⟩), .int .u8 kd, .int .i64 ka, .int .i64 kb, .int .i64 kn] [ro (some ⟨n, 0, none⟩) (netC c0 c1 mp)] (fun v _ => v = .tuple #[.agg #[.int .u8 0, .int .i64 0, .int .i64 0, .int .i64 0, .int .i64 0, .int .i64 0, .slice none 0 0], .bool false]) := by
  refine Does.enter Try.func53 rfl Try.ntmps53 rfl (fun w0 => ?_)
  refine To.seq ?_
  refine To.reg ?_
  refine To.alloc rfl rfl rfl rfl z116 (fun b10 => ?_)
  refine To.rd rfl rfl rfl (Rd.assign rfl rfl) ?_
  refine To.nil ?_
  refine To.thenN ?_
  refine To.seq ?_
  refine To.reg ?_
  refine To.rd rfl rfl rfl (Rd.move rfl rfl) ?_
  refine To.rd rfl rfl rfl (Rd.move rfl rfl) ?_
  refine To.rd rfl rfl rfl (Rd.move rfl rfl) ?_
  refine To.rd rfl rfl rfl (Rd.move rfl rfl) ?_
  refine To.rd rfl rfl rfl (Rd.build (vs := [(0, .int .u8 kd), (1, .int .i64 ka), (2, .int .i64 kb), (3, .int .i64 kn)]) (cells := [.int .u8 kd, .int .i64 ka, .int .i64 kb, .int .i64 kn]) rfl rfl rfl (by kernel_rfl)) ?_
  refine To.alloc rfl rfl rfl rfl z114 (fun b12 => ?_)
  refine To.up rfl rfl (Up.storeS (i := 0) rfl rfl rfl r114 rfl rfl rfl (box_takesAll rfl)) ?_
  refine To.nil ?_
  refine To.thenN ?_
  refine To.seq ?_
  refine To.flow [] [⟨0, [], 0⟩, ⟨1, [], 0⟩, ⟨2, [], 0⟩, ⟨3, [], 1⟩, ⟨4, [], 1⟩, ⟨5, [], 3⟩, ⟨6, [], 0⟩, ⟨7, [], 0⟩, ⟨8, [], 0⟩, ⟨9, [], 2⟩, ⟨10, [9], 5⟩, ⟨11, [], 0⟩] mixed (by kernel_rfl) (oks_nil _) ?_
  refine FlowS.free rfl rfl rfl rfl (Rd.move rfl rfl) ?_
  refine FlowS.free rfl rfl rfl rfl (Rd.nilCheck rfl rfl) ?_
  refine FlowS.free rfl rfl rfl rfl (Rd.field rfl rfl fl104_0) ?_
  refine FlowS.rd rfl rfl rfl rfl (Rd.loadS (i := 2) (us := [.slice none 0 0]) rfl rfl r71 rfl (ro_gives (A := some ⟨n, 0, none⟩) (o := 0) (k := 1) rfl) rfl) ?_
  refine FlowS.rd rfl rfl rfl rfl (Rd.loadS (i := 0) rfl rfl r114 rfl box_whole rfl) ?_
  refine FlowS.callQ rfl rfl rfl rfl (Ent.fn rfl rfl ca63) (get0_fn kd ka kb kn) rfl (oks_nil _) ?_
  refine FlowS.free rfl rfl rfl rfl (Rd.move rfl rfl) ?_
  refine FlowS.free rfl rfl rfl rfl (Rd.extract rfl rfl rfl) ?_
  refine FlowS.free rfl rfl rfl rfl (Rd.extract rfl rfl rfl) ?_
  refine FlowS.mk rfl rfl rfl rfl rfl (Mk.alloc rfl z116) ?_
  rintro _ _ ⟨b13, rfl, rfl⟩
  refine FlowS.up (Γ' := [box b13 [.int .u8 0, .int .i64 0, .int .i64 0, .int .i64 0, .int .i64 0, .int .i64 0, .slice none 0 0] 116, box b12 [.int .u8 kd, .int .i64 ka, .int .i64 kb, .int .i64 kn] 114, box b10 [.int .u8 0, .int .i64 0, .int .i64 0, .int .i64 0, .int .i64 0, .int .i64 0, .slice none 0 0] 116, ro (some ⟨n, 0, none⟩) (netC c0 c1 mp)]) rfl rfl rfl (Up.storeS (i := 0) rfl rfl rfl r116 rfl rfl rfl (box_takesAll rfl)) (oks_nil _) ?_
  refine FlowS.free rfl rfl rfl rfl (Rd.assign rfl rfl) ?_
  refine FlowS.fin ?_
  refine To.as [box b13 [.int .u8 0, .int .i64 0, .int .i64 0, .int .i64 0, .int .i64 0, .int .i64 0, .slice none 0 0] 116, box b12 [.int .u8 kd, .int .i64 ka, .int .i64 kb, .int .i64 kn] 114, box b10 [.int .u8 0, .int .i64 0, .int .i64 0, .int .i64 0, .int .i64 0, .int .i64 0, .slice none 0 0] 116, ro (some ⟨n, 0, none⟩) (netC c0 c1 mp)] rfl ?_
  refine To.thenN ?_
  refine To.seq ?_
  refine To.seq ?_
  refine To.reg ?_
  refine To.rd rfl rfl rfl (Rd.move rfl rfl) ?_
  refine To.nil ?_
  refine To.thenN ?_
  refine To.condF rfl ?_
  refine To.skip ?_
  refine To.thenN ?_
  refine To.seq ?_
  refine To.reg ?_
  refine To.rd rfl rfl rfl (Rd.loadS (i := 0) rfl rfl r116 rfl box_whole rfl) ?_
  refine To.rd rfl rfl rfl (Rd.move rfl rfl) ?_
  refine To.up rfl rfl (Up.storeS (i := 2) rfl rfl rfl r116 rfl rfl rfl (box_takesAll rfl)) ?_
  refine To.rd rfl rfl rfl (Rd.assign rfl rfl) ?_
  refine To.nil ?_
  refine To.thenN ?_
  refine To.ret ?_
  refine To.endCT [] rfl (.inl rfl) Try.results53 rfl (i := 2) rfl r116 rfl rfl ?_
  rfl
set_option maxHeartbeats 2000000 in
set_option maxRecDepth 100000 in
theorem cloneArr_fn (at_ h : Int) (A : Option Addr) (q : Nat) (xs : List Int) (hl : xs.length ≤ 1000000) :
    Does Try.prog 51 [.agg #[.int .i64 at_, .int .i64 h, .slice A xs.length q]] [ros encI A xs] (fun v Γ' => ∃ A1 q1, v = .agg #[.int .i64 at_, .int .i64 h, .slice A1 xs.length q1] ∧ Γ' = [rows encI 2 1 A1 q1 xs]) := by
  refine Does.enter Try.func51 rfl Try.ntmps51 rfl (fun w0 => ?_)
  refine To.seq ?_
  refine To.reg ?_
  refine To.boxed rfl rfl rfl rfl rfl rfl (fun b1 => ?_)
  refine To.alloc rfl rfl rfl rfl z76 (fun b2 => ?_)
  refine To.nil ?_
  refine To.thenN ?_
  refine To.seq ?_
  refine To.nilRow encI 2 1 ?_
  refine To.reg ?_
  refine To.rd rfl rfl rfl (Rd.field rfl rfl fl76_2) ?_
  refine To.rd rfl rfl rfl (Rd.load (i := 2) rfl rfl c28 rfl (box_gives1 rfl)) ?_
  refine To.ge rfl rfl rfl (Ge.appendL encI_ok (i := 0) (m := xs) rfl s28 rfl rfl rfl (src_ro (i := 3) rfl) (by first | omega | (simp only [List.length_append, List.length_cons, List.length_nil]; omega)) (by first | omega | (simp only [List.length_append, List.length_cons, List.length_nil]; omega))) ?_
  rintro _ _ ⟨A5, q5, rfl, rfl⟩
  refine To.as [rows encI 2 1 A5 q5 (([] : List Int) ++ xs), box b2 [.int .i64 0, .int .i64 0, .slice none 0 0] 76, box b1 [.int .i64 at_, .int .i64 h, .slice A xs.length q] 76, ros encI A xs] rfl ?_
  refine To.rd rfl rfl rfl (Rd.field rfl rfl fl76_2) ?_
  refine To.up rfl rfl (Up.store (i := 2) rfl rfl rfl c28 rfl rfl (box_takes1 rfl)) ?_
  refine To.nil ?_
  refine To.thenN ?_
  refine To.seq ?_
  refine To.reg ?_
  refine To.rd rfl rfl rfl (Rd.loadS (i := 2) rfl rfl r76 rfl box_whole rfl) ?_
  refine To.up rfl rfl (Up.storeS (i := 1) rfl rfl rfl r76 rfl rfl rfl (box_takesAll rfl)) ?_
  refine To.nil ?_
  refine To.thenN ?_
  refine To.ret ?_
  refine To.endC [0] rfl (.inl rfl) Try.results51 rfl (i := 1) rfl r76 rfl ?_
  exact ⟨_, _, rfl, rfl⟩
set_option maxHeartbeats 2000000 in
set_option maxRecDepth 100000 in
theorem nnew_fn  :
    Does Try.prog 29 [.agg #[.slice none 0 0], .slice none 0 0] [] (fun v Γ' => ∃ n r, v = .tuple #[.pointer (some ⟨n, 0, none⟩), .int .i64 0] ∧ Γ' = [box n (netC 0 0 (.map (some r))) 104]) := by
  refine Does.enter Try.func29 rfl Try.ntmps29 rfl (fun w0 => ?_)
  refine To.seq ?_
  refine To.reg ?_
  refine To.boxed rfl rfl rfl rfl rfl rfl (fun b2 => ?_)
  refine To.rd rfl rfl rfl (Rd.assign rfl rfl) ?_
  refine To.rd rfl rfl rfl (Rd.assign rfl rfl) ?_
  refine To.nil ?_
  refine To.thenN ?_
  refine To.seq ?_
  refine To.seq ?_
  refine To.reg ?_
  refine To.rd rfl rfl rfl (Rd.move rfl rfl) ?_
  refine To.rd rfl rfl rfl (Rd.len rfl rfl Try.underlying99) ?_
  refine To.rd rfl rfl rfl (Rd.gtr rfl rfl rfl) ?_
  refine To.nil ?_
  refine To.thenN ?_
  refine To.condF rfl ?_
  refine To.skip ?_
  refine To.thenN ?_
  refine To.seq ?_
  refine To.reg ?_
  refine To.rd rfl rfl rfl (Rd.loadS (i := 0) rfl rfl r71 rfl box_whole rfl) ?_
  refine To.mk rfl rfl rfl (Mk.makeMap rfl) ?_
  rintro _ _ ⟨r16, rfl, rfl⟩
  refine To.as [box b2 [.slice none 0 0] 71] rfl ?_
  refine To.rd rfl rfl rfl (Rd.build (vs := [(0, .agg #[.slice none 0 0]), (5, .map (some r16))]) (cells := [.slice none 0 0, .slice none 0 0, .int .i64 0, .int .i64 0, .int .i64 0, .int .i64 0, .int .i64 0, .int .i64 0, .int .i64 0, .int .i64 0, .int .i64 0, .int .i64 0, .int .i64 0, .int .i64 0, .int .i64 0, .int .i64 0, .int .i64 0, .int .i64 0, .int .i64 0, .int .i64 0, .int .i64 0, .int .i64 0, .int .i64 0, .int .i64 0, .int .i64 0, .int .i64 0, .int .i64 0, .int .i64 0, .int .i64 0, .int .i64 0, .int .i64 0, .int .i64 0, .int .i64 0, .int .i64 0, .int .i64 0, .int .i64 0, .int .i64 0, .int .i64 0, .int .i64 0, .int .i64 0, .int .i64 0, .int .i64 0, .int .i64 0, .int .i64 0, .int .i64 0, .int .i64 0, .int .i64 0, .int .i64 0, .int .i64 0, .int .i64 0, .int .i64 0, .int .i64 0, .int .i64 0, .int .i64 0, .int .i64 0, .int .i64 0, .int .i64 0, .int .i64 0, .int .i64 0, .int .i64 0, .int .i64 0, .int .i64 0, .int .i64 0, .int .i64 0, .int .i64 0, .int .i64 0, .int .i64 0, .int .i64 0, .int .i64 0, .int .i64 0, .int .i64 0, .int .i64 0, .int .i64 0, .int .i64 0, .int .i64 0, .int .i64 0, .int .i64 0, .int .i64 0, .int .i64 0, .int .i64 0, .int .i64 0, .int .i64 0, .map (some r16)]) rfl rfl rfl (by kernel_rfl)) ?_
  refine To.boxed rfl rfl rfl rfl rfl rfl (fun b18 => ?_)
  refine To.rd rfl rfl rfl (Rd.assign rfl rfl) ?_
  refine To.nil ?_
  refine To.thenN ?_
  refine To.seq ?_
  refine To.seq ?_
  refine To.reg ?_
  refine To.rd rfl rfl rfl (Rd.move rfl rfl) ?_
  refine To.rd rfl rfl rfl (Rd.len rfl rfl Try.underlying99) ?_
  refine To.rd rfl rfl rfl (Rd.move rfl rfl) ?_
  refine To.nil ?_
  refine To.thenN ?_
  refine To.block ?_
  refine To.loopOnce ?_
  refine To.seq ?_
  refine To.reg ?_
  refine To.rd rfl rfl rfl (Rd.lss rfl rfl rfl) ?_
  refine To.nil ?_
  refine To.thenN ?_
  refine To.seq ?_
  refine To.condF rfl ?_
  refine To.exit ?_
  refine To.thenX ?_
  refine To.thenX ?_
  refine To.blockX ?_
  refine To.thenN ?_
  refine To.seq ?_
  refine To.reg ?_
  refine To.rd rfl rfl rfl (Rd.move rfl rfl) ?_
  refine To.rd rfl rfl rfl (Rd.assign rfl rfl) ?_
  refine To.rd rfl rfl rfl (Rd.assign rfl rfl) ?_
  refine To.nil ?_
  refine To.thenN ?_
  refine To.ret ?_
  refine To.as [box b18 (netC 0 0 (.map (some r16))) 104, box b2 [.slice none 0 0] 71] rfl ?_
  refine To.only [0] rfl ?_
  refine To.end2 (.inl rfl) Try.results29 rfl rfl ?_
  exact ⟨_, _, rfl, rfl⟩
end Go.Proofs.Ytnamppkicefbjaa

/- The example of the chapter. Own text (walks printed by sx.py). -/
import Derived.Test.YtnghonabedcacaaI5
namespace Go.Proofs.Ytnghonabedcacaa
open Go.RowKit Go.Flow Go.Mem Go.Sep
structure Ev where
  t : Int
  c : Int
  k : Int
  p : Int
  n : Int
  cp : Int
  h : Int
  d : Int
def Ev.cells (e : Ev) : List Value := [.int .i64 e.t, .int .i64 e.c, .int .u8 e.k, .int .i64 e.p, .int .i64 e.n, .int .i64 e.cp, .int .i64 e.h, .int .i64 e.d, .slice none 0 0]
theorem encE : Enc Ev.cells 9 := ⟨fun _ => rfl, fun e u hu => by
  simp only [Ev.cells, List.mem_cons, List.not_mem_nil, or_false] at hu
  rcases hu with rfl | rfl | rfl | rfl | rfl | rfl | rfl | rfl | rfl <;> rfl⟩
abbrev ex0 : Ev := ⟨0, 0, 8, 1, 0, 0, 2, 0⟩
abbrev ex1 : Ev := ⟨7, 0, 11, 0, 0, 0, 0, 0⟩
abbrev exA : List Ev := [ex0]
abbrev exB : List Ev := [ex0, ex1]
theorem hA0 : exA[0]? = some ex0 := rfl
theorem hB0 : exB[0]? = some ex0 := rfl
theorem hB1 : exB[1]? = some ex1 := rfl
abbrev ms1 : Ms := ⟨0, 1, 0⟩
abbrev ms2 : Ms := ⟨0, 1, 1⟩
set_option maxHeartbeats 2000000 in
set_option maxRecDepth 100000 in
theorem eq0_fn (A B : Option Addr) (ca cb : Nat) :
    Does Try.prog 42 [.slice A 0 ca, .slice B 0 cb] [] (fun v _ => v = .bool true) := by
  refine Does.enter Try.func42 rfl Try.ntmps42 rfl (fun w0 => ?_)
  refine To.seq ?_
  refine To.reg ?_
  refine To.rd rfl rfl rfl (Rd.assign rfl rfl) ?_
  refine To.nil ?_
  refine To.thenN ?_
  refine To.seq ?_
  refine To.seq ?_
  refine To.reg ?_
  refine To.rd rfl rfl rfl (Rd.move rfl rfl) ?_
  refine To.rd rfl rfl rfl (Rd.len rfl rfl Try.underlying41) ?_
  refine To.rd rfl rfl rfl (Rd.move rfl rfl) ?_
  refine To.rd rfl rfl rfl (Rd.len rfl rfl Try.underlying41) ?_
  refine To.rd rfl rfl rfl (Rd.neq rfl rfl rfl) ?_
  refine To.nil ?_
  refine To.thenN ?_
  refine To.condF rfl ?_
  refine To.skip ?_
  refine To.thenN ?_
  refine To.seq ?_
  refine To.seq ?_
  refine To.reg ?_
  refine To.rd rfl rfl rfl (Rd.move rfl rfl) ?_
  refine To.rd rfl rfl rfl (Rd.len rfl rfl Try.underlying41) ?_
  refine To.rd rfl rfl rfl (Rd.move rfl rfl) ?_
  refine To.nil ?_
  refine To.thenN ?_
  refine To.block ?_
  refine To.rounds 1 ?_
  refine To.roundS ?_
  refine To.seq ?_
  refine To.reg ?_
  refine To.rd rfl rfl rfl (Rd.lss rfl rfl rfl) ?_
  refine To.nil ?_
  refine To.thenN ?_
  refine To.seq ?_
  refine To.condF rfl ?_
  refine To.exit ?_
  refine To.thenX ?_
  refine To.thenX ?_
  refine To.blockX ?_
  refine To.thenN ?_
  refine To.seq ?_
  refine To.reg ?_
  refine To.rd rfl rfl rfl (Rd.assign rfl rfl) ?_
  refine To.nil ?_
  refine To.thenN ?_
  refine To.ret ?_
  refine To.end1 (.inl rfl) Try.results42 rfl ?_
  rfl
set_option maxHeartbeats 2000000 in
set_option maxRecDepth 100000 in
theorem eqev_fn  :
    Does Try.prog 30 [.agg (Ev.cells ex0).toArray, .agg (Ev.cells ex0).toArray] [] (fun v _ => v = .bool true) := by
  refine Does.enter Try.func30 rfl Try.ntmps30 rfl (fun w0 => ?_)
  refine To.seq ?_
  refine To.reg ?_
  refine To.boxed rfl rfl rfl rfl rfl rfl (fun b2 => ?_)
  refine To.boxed rfl rfl rfl rfl rfl rfl (fun b3 => ?_)
  refine To.rd rfl rfl rfl (Rd.assign rfl rfl) ?_
  refine To.nil ?_
  refine To.thenN ?_
  refine To.seq ?_
  refine To.reg ?_
  refine To.rd rfl rfl rfl (Rd.field rfl rfl fl43_0) ?_
  refine To.rd rfl rfl rfl (Rd.load (i := 1) rfl rfl c3 rfl (box_gives1 rfl)) ?_
  refine To.rd rfl rfl rfl (Rd.field rfl rfl fl43_0) ?_
  refine To.rd rfl rfl rfl (Rd.load (i := 0) rfl rfl c3 rfl (box_gives1 rfl)) ?_
  refine To.rd rfl rfl rfl (Rd.eql rfl rfl rfl) ?_
  refine To.rd rfl rfl rfl (Rd.move rfl rfl) ?_
  refine To.rd rfl rfl rfl (Rd.field rfl rfl fl43_1) ?_
  refine To.rd rfl rfl rfl (Rd.load (i := 1) rfl rfl c3 rfl (box_gives1 rfl)) ?_
  refine To.rd rfl rfl rfl (Rd.field rfl rfl fl43_1) ?_
  refine To.rd rfl rfl rfl (Rd.load (i := 0) rfl rfl c3 rfl (box_gives1 rfl)) ?_
  refine To.rd rfl rfl rfl (Rd.eql rfl rfl rfl) ?_
  refine To.rd rfl rfl rfl (Rd.pickT rfl rfl rfl) ?_
  refine To.rd rfl rfl rfl (Rd.move rfl rfl) ?_
  refine To.rd rfl rfl rfl (Rd.field rfl rfl fl43_2) ?_
  refine To.rd rfl rfl rfl (Rd.load (i := 1) rfl rfl c40 rfl (box_gives1 rfl)) ?_
  refine To.rd rfl rfl rfl (Rd.field rfl rfl fl43_2) ?_
  refine To.rd rfl rfl rfl (Rd.load (i := 0) rfl rfl c40 rfl (box_gives1 rfl)) ?_
  refine To.rd rfl rfl rfl (Rd.eql rfl rfl rfl) ?_
  refine To.rd rfl rfl rfl (Rd.pickT rfl rfl rfl) ?_
  refine To.rd rfl rfl rfl (Rd.move rfl rfl) ?_
  refine To.rd rfl rfl rfl (Rd.field rfl rfl fl43_3) ?_
  refine To.rd rfl rfl rfl (Rd.load (i := 1) rfl rfl c3 rfl (box_gives1 rfl)) ?_
  refine To.rd rfl rfl rfl (Rd.field rfl rfl fl43_3) ?_
  refine To.rd rfl rfl rfl (Rd.load (i := 0) rfl rfl c3 rfl (box_gives1 rfl)) ?_
  refine To.rd rfl rfl rfl (Rd.eql rfl rfl rfl) ?_
  refine To.rd rfl rfl rfl (Rd.pickT rfl rfl rfl) ?_
  refine To.rd rfl rfl rfl (Rd.move rfl rfl) ?_
  refine To.rd rfl rfl rfl (Rd.field rfl rfl fl43_4) ?_
  refine To.rd rfl rfl rfl (Rd.load (i := 1) rfl rfl c3 rfl (box_gives1 rfl)) ?_
  refine To.rd rfl rfl rfl (Rd.field rfl rfl fl43_4) ?_
  refine To.rd rfl rfl rfl (Rd.load (i := 0) rfl rfl c3 rfl (box_gives1 rfl)) ?_
  refine To.rd rfl rfl rfl (Rd.eql rfl rfl rfl) ?_
  refine To.rd rfl rfl rfl (Rd.pickT rfl rfl rfl) ?_
  refine To.rd rfl rfl rfl (Rd.move rfl rfl) ?_
  refine To.rd rfl rfl rfl (Rd.field rfl rfl fl43_5) ?_
  refine To.rd rfl rfl rfl (Rd.load (i := 1) rfl rfl c3 rfl (box_gives1 rfl)) ?_
  refine To.rd rfl rfl rfl (Rd.field rfl rfl fl43_5) ?_
  refine To.rd rfl rfl rfl (Rd.load (i := 0) rfl rfl c3 rfl (box_gives1 rfl)) ?_
  refine To.rd rfl rfl rfl (Rd.eql rfl rfl rfl) ?_
  refine To.rd rfl rfl rfl (Rd.pickT rfl rfl rfl) ?_
  refine To.rd rfl rfl rfl (Rd.move rfl rfl) ?_
  refine To.rd rfl rfl rfl (Rd.field rfl rfl fl43_6) ?_
  refine To.rd rfl rfl rfl (Rd.load (i := 1) rfl rfl c3 rfl (box_gives1 rfl)) ?_
  refine To.rd rfl rfl rfl (Rd.field rfl rfl fl43_6) ?_
  refine To.rd rfl rfl rfl (Rd.load (i := 0) rfl rfl c3 rfl (box_gives1 rfl)) ?_
  refine To.rd rfl rfl rfl (Rd.eql rfl rfl rfl) ?_
  refine To.rd rfl rfl rfl (Rd.pickT rfl rfl rfl) ?_
  refine To.rd rfl rfl rfl (Rd.move rfl rfl) ?_
  refine To.rd rfl rfl rfl (Rd.field rfl rfl fl43_7) ?_
  refine To.rd rfl rfl rfl (Rd.load (i := 1) rfl rfl c2 rfl (box_gives1 rfl)) ?_
  refine To.rd rfl rfl rfl (Rd.field rfl rfl fl43_7) ?_
  refine To.rd rfl rfl rfl (Rd.load (i := 0) rfl rfl c2 rfl (box_gives1 rfl)) ?_
  refine To.rd rfl rfl rfl (Rd.eql rfl rfl rfl) ?_
  refine To.rd rfl rfl rfl (Rd.pickT rfl rfl rfl) ?_
  refine To.rd rfl rfl rfl (Rd.move rfl rfl) ?_
  refine To.rd rfl rfl rfl (Rd.field rfl rfl fl43_8) ?_
  refine To.rd rfl rfl rfl (Rd.load (i := 1) rfl rfl c41 rfl (box_gives1 rfl)) ?_
  refine To.rd rfl rfl rfl (Rd.field rfl rfl fl43_8) ?_
  refine To.rd rfl rfl rfl (Rd.load (i := 0) rfl rfl c41 rfl (box_gives1 rfl)) ?_
  refine To.callV rfl rfl rfl (Ent.fn rfl rfl ca42) (eq0_fn none none 0 0) rfl (oks_nil _) ?_
  refine To.rd rfl rfl rfl (Rd.pickT rfl rfl rfl) ?_
  refine To.rd rfl rfl rfl (Rd.assign rfl rfl) ?_
  refine To.nil ?_
  refine To.sub [(0, .agg (Ev.cells ex0).toArray), (1, .agg (Ev.cells ex0).toArray), (2, .pointer (some ⟨b2, 0, none⟩)), (3, .pointer (some ⟨b3, 0, none⟩)), (4, .bool true)] ⟨rfl, rfl, rfl, rfl, rfl, trivial⟩ ?_
  refine To.thenN ?_
  refine To.ret ?_
  refine To.end1 (.inl rfl) Try.results30 rfl ?_
  rfl
set_option maxHeartbeats 2000000 in
set_option maxRecDepth 100000 in
theorem div_fn (A B : Option Addr) (ca cb : Nat) :
    Does Try.prog 13 [.slice A exA.length ca, .slice B exB.length cb] [ros Ev.cells A exA, ros Ev.cells B exB] (fun v _ => v = .tuple #[.int .i64 7, .int .i64 1, .bool false]) := by
  refine Does.enter Try.func13 rfl Try.ntmps13 rfl (fun w0 => ?_)
  refine To.seq ?_
  refine To.reg ?_
  refine To.rd rfl rfl rfl (Rd.assign rfl rfl) ?_
  refine To.rd rfl rfl rfl (Rd.assign rfl rfl) ?_
  refine To.rd rfl rfl rfl (Rd.assign rfl rfl) ?_
  refine To.nil ?_
  refine To.thenN ?_
  refine To.seq ?_
  refine To.block ?_
  refine To.rounds 2 ?_
  refine To.roundS ?_
  refine To.seq ?_
  refine To.seq ?_
  refine To.flow [ros Ev.cells A exA, ros Ev.cells B exB] [⟨0, [], 0⟩, ⟨1, [], 0⟩, ⟨2, [], 0⟩, ⟨3, [], 0⟩, ⟨4, [], 0⟩, ⟨5, [], 0⟩, ⟨6, [], 0⟩, ⟨7, [], 0⟩, ⟨8, [], 0⟩, ⟨9, [], 0⟩, ⟨10, [], 0⟩, ⟨11, [], 0⟩, ⟨12, [], 0⟩, ⟨15, [], 0⟩, ⟨16, [], 0⟩, ⟨13, [], 1⟩, ⟨14, [], 1⟩, ⟨17, [], 1⟩, ⟨18, [], 1⟩, ⟨19, [], 3⟩, ⟨20, [], 0⟩] mixed (by kernel_rfl) (oks_cons (oks_at 0 rfl) (oks_cons (oks_at 1 rfl) (oks_nil _))) ?_
  refine FlowS.free rfl rfl rfl rfl (Rd.move rfl rfl) ?_
  refine FlowS.free rfl rfl rfl rfl (Rd.move rfl rfl) ?_
  refine FlowS.free rfl rfl rfl rfl (Rd.len rfl rfl Try.underlying44) ?_
  refine FlowS.free rfl rfl rfl rfl (Rd.lss rfl rfl rfl) ?_
  refine FlowS.free rfl rfl rfl rfl (Rd.move rfl rfl) ?_
  refine FlowS.free rfl rfl rfl rfl (Rd.move rfl rfl) ?_
  refine FlowS.free rfl rfl rfl rfl (Rd.move rfl rfl) ?_
  refine FlowS.free rfl rfl rfl rfl (Rd.len rfl rfl Try.underlying44) ?_
  refine FlowS.free rfl rfl rfl rfl (Rd.lss rfl rfl rfl) ?_
  refine FlowS.free rfl rfl rfl rfl (Rd.pickT rfl rfl rfl) ?_
  refine FlowS.free rfl rfl rfl rfl (Rd.move rfl rfl) ?_
  refine FlowS.free rfl rfl rfl rfl (Rd.move rfl rfl) ?_
  refine FlowS.free rfl rfl rfl rfl (Rd.move rfl rfl) ?_
  refine FlowS.free rfl rfl rfl rfl (Rd.move rfl rfl) ?_
  refine FlowS.free rfl rfl rfl rfl (Rd.move rfl rfl) ?_
  refine FlowS.rd rfl rfl rfl rfl (Rd.indexRos encE (i := 0) (j := 0) rfl rfl rfl s44 rfl hA0) ?_
  refine FlowS.rd rfl rfl rfl rfl (Rd.loadS (i := 0) rfl rfl r43 rfl (ros_gives encE hA0) (encE.len _)) ?_
  refine FlowS.rd rfl rfl rfl rfl (Rd.indexRos encE (i := 1) (j := 0) rfl rfl rfl s44 rfl hB0) ?_
  refine FlowS.rd rfl rfl rfl rfl (Rd.loadS (i := 1) rfl rfl r43 rfl (ros_gives encE hB0) (encE.len _)) ?_
  refine FlowS.callQ rfl rfl rfl rfl (Ent.fn rfl rfl ca30) (eqev_fn) rfl (oks_nil _) ?_
  refine FlowS.free rfl rfl rfl rfl (Rd.pickT rfl rfl rfl) ?_
  refine FlowS.fin ?_
  refine To.as [ros Ev.cells A exA, ros Ev.cells B exB] rfl ?_
  refine To.sub [(0, .slice A exA.length ca), (1, .slice B exB.length cb), (4, .int .i64 0), (5, .int .i64 0), (6, .bool false), (27, .bool true)] ⟨rfl, rfl, rfl, rfl, rfl, rfl, trivial⟩ ?_
  refine To.thenN ?_
  refine To.condT rfl ?_
  refine To.skip ?_
  refine To.thenN ?_
  refine To.block ?_
  refine To.reg ?_
  refine To.rd rfl rfl rfl (Rd.move rfl rfl) ?_
  refine To.rd rfl rfl rfl (Rd.as (v' := .int .i64 (1)) rfl (Rd.add64 (m := 0) (n := 1) rfl rfl rfl (by decide))) ?_
  refine To.rd rfl rfl rfl (Rd.assign rfl rfl) ?_
  refine To.nil ?_
  refine To.blockN ?_
  refine To.thenN ?_
  refine To.roundS ?_
  refine To.seq ?_
  refine To.seq ?_
  refine To.flow [ros Ev.cells A exA, ros Ev.cells B exB] [⟨0, [], 0⟩, ⟨1, [], 0⟩, ⟨2, [], 0⟩, ⟨3, [], 0⟩, ⟨4, [], 0⟩, ⟨5, [], 0⟩, ⟨6, [], 0⟩, ⟨7, [], 0⟩, ⟨8, [], 0⟩, ⟨9, [], 0⟩, ⟨10, [], 0⟩, ⟨11, [], 0⟩, ⟨12, [], 0⟩, ⟨15, [], 0⟩, ⟨16, [], 0⟩, ⟨13, [], 1⟩, ⟨14, [], 1⟩, ⟨17, [], 1⟩, ⟨18, [], 1⟩, ⟨19, [], 3⟩, ⟨20, [], 0⟩] mixed (by kernel_rfl) (oks_cons (oks_at 0 rfl) (oks_cons (oks_at 1 rfl) (oks_nil _))) ?_
  refine FlowS.free rfl rfl rfl rfl (Rd.move rfl rfl) ?_
  refine FlowS.free rfl rfl rfl rfl (Rd.move rfl rfl) ?_
  refine FlowS.free rfl rfl rfl rfl (Rd.len rfl rfl Try.underlying44) ?_
  refine FlowS.free rfl rfl rfl rfl (Rd.lss rfl rfl rfl) ?_
  refine FlowS.free rfl rfl rfl rfl (Rd.move rfl rfl) ?_
  refine FlowS.skip (by decide) rfl rfl rfl rfl ?_
  refine FlowS.skip (by decide) rfl rfl rfl rfl ?_
  refine FlowS.skip (by decide) rfl rfl rfl rfl ?_
  refine FlowS.skip (by decide) rfl rfl rfl rfl ?_
  refine FlowS.free rfl rfl rfl rfl (Rd.pickF rfl rfl rfl) ?_
  refine FlowS.free rfl rfl rfl rfl (Rd.move rfl rfl) ?_
  refine FlowS.skip (by decide) rfl rfl rfl rfl ?_
  refine FlowS.skip (by decide) rfl rfl rfl rfl ?_
  refine FlowS.skip (by decide) rfl rfl rfl rfl ?_
  refine FlowS.skip (by decide) rfl rfl rfl rfl ?_
  refine FlowS.skip (by decide) rfl rfl rfl rfl ?_
  refine FlowS.skip (by decide) rfl rfl rfl rfl ?_
  refine FlowS.skip (by decide) rfl rfl rfl rfl ?_
  refine FlowS.skip (by decide) rfl rfl rfl rfl ?_
  refine FlowS.skip (by decide) rfl rfl rfl rfl ?_
  refine FlowS.free rfl rfl rfl rfl (Rd.pickF rfl rfl rfl) ?_
  refine FlowS.fin ?_
  refine To.as [ros Ev.cells A exA, ros Ev.cells B exB] rfl ?_
  refine To.sub [(0, .slice A exA.length ca), (1, .slice B exB.length cb), (4, .int .i64 0), (5, .int .i64 1), (6, .bool false), (27, .bool false)] ⟨rfl, rfl, rfl, rfl, rfl, rfl, trivial⟩ ?_
  refine To.thenN ?_
  refine To.condF rfl ?_
  refine To.exit ?_
  refine To.thenX ?_
  refine To.thenX ?_
  refine To.blockX ?_
  refine To.thenN ?_
  refine To.seq ?_
  refine To.block ?_
  refine To.seq ?_
  refine To.reg ?_
  refine To.rd rfl rfl rfl (Rd.move rfl rfl) ?_
  refine To.rd rfl rfl rfl (Rd.move rfl rfl) ?_
  refine To.rd rfl rfl rfl (Rd.len rfl rfl Try.underlying44) ?_
  refine To.rd rfl rfl rfl (Rd.lss rfl rfl rfl) ?_
  refine To.rd rfl rfl rfl (Rd.move rfl rfl) ?_
  refine To.sk rfl rfl rfl ?_
  refine To.sk rfl rfl rfl ?_
  refine To.sk rfl rfl rfl ?_
  refine To.sk rfl rfl rfl ?_
  refine To.rd rfl rfl rfl (Rd.pickF rfl rfl rfl) ?_
  refine To.rd rfl rfl rfl (Rd.assign rfl rfl) ?_
  refine To.nil ?_
  refine To.thenN ?_
  refine To.condF rfl ?_
  refine To.seq ?_
  refine To.reg ?_
  refine To.rd rfl rfl rfl (Rd.move rfl rfl) ?_
  refine To.rd rfl rfl rfl (Rd.move rfl rfl) ?_
  refine To.rd rfl rfl rfl (Rd.len rfl rfl Try.underlying44) ?_
  refine To.rd rfl rfl rfl (Rd.lss rfl rfl rfl) ?_
  refine To.rd rfl rfl rfl (Rd.assign rfl rfl) ?_
  refine To.nil ?_
  refine To.sub [(0, .slice A exA.length ca), (1, .slice B exB.length cb), (4, .int .i64 0), (5, .int .i64 1), (6, .bool false), (27, .bool false), (30, .bool false), (53, .bool false)] ⟨rfl, rfl, rfl, rfl, rfl, rfl, rfl, rfl, trivial⟩ ?_
  refine To.thenN ?_
  refine To.condF rfl ?_
  refine To.seq ?_
  refine To.reg ?_
  refine To.rd rfl rfl rfl (Rd.move rfl rfl) ?_
  refine To.rd rfl rfl rfl (Rd.move rfl rfl) ?_
  refine To.rd rfl rfl rfl (Rd.len rfl rfl Try.underlying44) ?_
  refine To.rd rfl rfl rfl (Rd.lss rfl rfl rfl) ?_
  refine To.rd rfl rfl rfl (Rd.assign rfl rfl) ?_
  refine To.nil ?_
  refine To.thenN ?_
  refine To.condT rfl ?_
  refine To.seq ?_
  refine To.reg ?_
  refine To.rd rfl rfl rfl (Rd.move rfl rfl) ?_
  refine To.rd rfl rfl rfl (Rd.move rfl rfl) ?_
  refine To.rd rfl rfl rfl (Rd.indexRos encE (i := 1) (j := 1) rfl rfl rfl s44 rfl hB1) ?_
  refine To.rd rfl rfl rfl (Rd.field rfl rfl fl43_0) ?_
  refine To.rd rfl rfl rfl (Rd.load (i := 1) rfl rfl c3 rfl (gives_at (f := 0) (ros_gives encE hB1) rfl)) ?_
  refine To.rd rfl rfl rfl (Rd.move rfl rfl) ?_
  refine To.rd rfl rfl rfl (Rd.assign rfl rfl) ?_
  refine To.rd rfl rfl rfl (Rd.assign rfl rfl) ?_
  refine To.rd rfl rfl rfl (Rd.assign rfl rfl) ?_
  refine To.nil ?_
  refine To.thenN ?_
  refine To.ret ?_
  refine To.blockR ?_
  refine To.thenR ?_
  refine To.end3 (.inl rfl) Try.results13 rfl rfl rfl ?_
  rfl
set_option maxHeartbeats 2000000 in
set_option maxRecDepth 100000 in
theorem sends1_fn  :
    Does Try.prog 33 [.agg (Ev.cells ex0).toArray, .agg #[.int .i64 0, .int .i64 1, .int .i64 0]] [] (fun v _ => v = .bool true) := by
  refine Does.enter Try.func33 rfl Try.ntmps33 rfl (fun w0 => ?_)
  refine To.seq ?_
  refine To.reg ?_
  refine To.boxed rfl rfl rfl rfl rfl rfl (fun b2 => ?_)
  refine To.boxed rfl rfl rfl rfl rfl rfl (fun b3 => ?_)
  refine To.rd rfl rfl rfl (Rd.assign rfl rfl) ?_
  refine To.nil ?_
  refine To.thenN ?_
  refine To.seq ?_
  refine To.reg ?_
  refine To.rd rfl rfl rfl (Rd.field rfl rfl fl43_2) ?_
  refine To.rd rfl rfl rfl (Rd.load (i := 1) rfl rfl c40 rfl (box_gives1 rfl)) ?_
  refine To.rd rfl rfl rfl (Rd.eql rfl rfl rfl) ?_
  refine To.rd rfl rfl rfl (Rd.move rfl rfl) ?_
  refine To.rd rfl rfl rfl (Rd.field rfl rfl fl43_1) ?_
  refine To.rd rfl rfl rfl (Rd.load (i := 1) rfl rfl c3 rfl (box_gives1 rfl)) ?_
  refine To.rd rfl rfl rfl (Rd.field rfl rfl fl33_0) ?_
  refine To.rd rfl rfl rfl (Rd.load (i := 0) rfl rfl c3 rfl (box_gives1 rfl)) ?_
  refine To.rd rfl rfl rfl (Rd.eql rfl rfl rfl) ?_
  refine To.rd rfl rfl rfl (Rd.pickT rfl rfl rfl) ?_
  refine To.rd rfl rfl rfl (Rd.move rfl rfl) ?_
  refine To.rd rfl rfl rfl (Rd.field rfl rfl fl43_3) ?_
  refine To.rd rfl rfl rfl (Rd.load (i := 1) rfl rfl c3 rfl (box_gives1 rfl)) ?_
  refine To.rd rfl rfl rfl (Rd.field rfl rfl fl33_1) ?_
  refine To.rd rfl rfl rfl (Rd.load (i := 0) rfl rfl c3 rfl (box_gives1 rfl)) ?_
  refine To.rd rfl rfl rfl (Rd.eql rfl rfl rfl) ?_
  refine To.rd rfl rfl rfl (Rd.pickT rfl rfl rfl) ?_
  refine To.rd rfl rfl rfl (Rd.move rfl rfl) ?_
  refine To.rd rfl rfl rfl (Rd.field rfl rfl fl43_4) ?_
  refine To.rd rfl rfl rfl (Rd.load (i := 1) rfl rfl c3 rfl (box_gives1 rfl)) ?_
  refine To.rd rfl rfl rfl (Rd.field rfl rfl fl33_2) ?_
  refine To.rd rfl rfl rfl (Rd.load (i := 0) rfl rfl c3 rfl (box_gives1 rfl)) ?_
  refine To.rd rfl rfl rfl (Rd.eql rfl rfl rfl) ?_
  refine To.rd rfl rfl rfl (Rd.pickT rfl rfl rfl) ?_
  refine To.rd rfl rfl rfl (Rd.assign rfl rfl) ?_
  refine To.nil ?_
  refine To.sub [(0, .agg (Ev.cells ex0).toArray), (1, .agg #[.int .i64 0, .int .i64 1, .int .i64 0]), (2, .pointer (some ⟨b2, 0, none⟩)), (3, .pointer (some ⟨b3, 0, none⟩)), (4, .bool true)] ⟨rfl, rfl, rfl, rfl, rfl, trivial⟩ ?_
  refine To.thenN ?_
  refine To.ret ?_
  refine To.end1 (.inl rfl) Try.results33 rfl ?_
  rfl
set_option maxHeartbeats 2000000 in
set_option maxRecDepth 100000 in
theorem fate1_fn (b : Nat) :
    Does Try.prog 32 [.agg (Ev.cells ex0).toArray, .pointer (some ⟨b, 0, none⟩)] [ro (some ⟨b, 0, none⟩) [.int .i64 0, .int .i64 1, .int .i64 0]] (fun v _ => v = .bool true) := by
  refine Does.enter Try.func32 rfl Try.ntmps32 rfl (fun w0 => ?_)
  refine To.seq ?_
  refine To.reg ?_
  refine To.boxed rfl rfl rfl rfl rfl rfl (fun b2 => ?_)
  refine To.rd rfl rfl rfl (Rd.assign rfl rfl) ?_
  refine To.nil ?_
  refine To.thenN ?_
  refine To.seq ?_
  refine To.reg ?_
  refine To.rd rfl rfl rfl (Rd.loadS (i := 0) rfl rfl r43 rfl box_whole rfl) ?_
  refine To.rd rfl rfl rfl (Rd.loadS (i := 1) (us := [.int .i64 0, .int .i64 1, .int .i64 0]) rfl rfl r33 rfl (ro_gives (A := some ⟨b, 0, none⟩) (o := 0) (k := 3) rfl) rfl) ?_
  refine To.callV rfl rfl rfl (Ent.fn rfl rfl ca33) (sends1_fn) rfl (oks_nil _) ?_
  refine To.rd rfl rfl rfl (Rd.assign rfl rfl) ?_
  refine To.nil ?_
  refine To.thenN ?_
  refine To.ret ?_
  refine To.end1 (.inl rfl) Try.results32 rfl ?_
  rfl
set_option maxHeartbeats 2000000 in
set_option maxRecDepth 100000 in
theorem idx1_fn (A : Option Addr) (ca b : Nat) :
    Does Try.prog 43 [.slice A exA.length ca, .func (.func 32) #[] #[.pointer (some ⟨b, 0, none⟩)]] [ros Ev.cells A exA, ro (some ⟨b, 0, none⟩) [.int .i64 0, .int .i64 1, .int .i64 0]] (fun v _ => v = .int .i64 (0)) := by
  refine Does.enter Try.func43 rfl Try.ntmps43 rfl (fun w0 => ?_)
  refine To.seq ?_
  refine To.reg ?_
  refine To.rd rfl rfl rfl (Rd.assign rfl rfl) ?_
  refine To.nil ?_
  refine To.thenN ?_
  refine To.seq ?_
  refine To.seq ?_
  refine To.reg ?_
  refine To.rd rfl rfl rfl (Rd.move rfl rfl) ?_
  refine To.rd rfl rfl rfl (Rd.len rfl rfl Try.underlying44) ?_
  refine To.rd rfl rfl rfl (Rd.move rfl rfl) ?_
  refine To.nil ?_
  refine To.thenN ?_
  refine To.block ?_
  refine To.rounds 2 ?_
  refine To.roundS ?_
  refine To.seq ?_
  refine To.reg ?_
  refine To.rd rfl rfl rfl (Rd.lss rfl rfl rfl) ?_
  refine To.nil ?_
  refine To.thenN ?_
  refine To.seq ?_
  refine To.condT rfl ?_
  refine To.skip ?_
  refine To.thenN ?_
  refine To.seq ?_
  refine To.block ?_
  refine To.seq ?_
  refine To.reg ?_
  refine To.rd rfl rfl rfl (Rd.move rfl rfl) ?_
  refine To.rd rfl rfl rfl (Rd.assign rfl rfl) ?_
  refine To.nil ?_
  refine To.thenN ?_
  refine To.seq ?_
  refine To.reg ?_
  refine To.rd rfl rfl rfl (Rd.move rfl rfl) ?_
  refine To.rd rfl rfl rfl (Rd.move rfl rfl) ?_
  refine To.rd rfl rfl rfl (Rd.move rfl rfl) ?_
  refine To.rd rfl rfl rfl (Rd.indexRos encE (i := 0) (j := 0) rfl rfl rfl s44 rfl hA0) ?_
  refine To.rd rfl rfl rfl (Rd.loadS (i := 0) rfl rfl r43 rfl (ros_gives encE hA0) (encE.len _)) ?_
  refine To.callV rfl rfl rfl (Ent.func (first := []) (captured := [.pointer (some ⟨b, 0, none⟩)]) rfl rfl rfl ca32) (fate1_fn b) rfl (oks_cons (oks_at 1 rfl) (oks_nil _)) ?_
  refine To.nil ?_
  refine To.thenN ?_
  refine To.condT rfl ?_
  refine To.seq ?_
  refine To.reg ?_
  refine To.rd rfl rfl rfl (Rd.move rfl rfl) ?_
  refine To.rd rfl rfl rfl (Rd.assign rfl rfl) ?_
  refine To.nil ?_
  refine To.thenN ?_
  refine To.ret ?_
  refine To.blockR ?_
  refine To.thenR ?_
  refine To.thenR ?_
  refine To.blockR ?_
  refine To.thenR ?_
  refine To.end1 (.inl rfl) Try.results43 rfl ?_
  rfl
set_option maxHeartbeats 2000000 in
set_option maxRecDepth 100000 in
theorem has1_fn (A : Option Addr) (ca b : Nat) :
    Does Try.prog 31 [.slice A exA.length ca, .func (.func 32) #[] #[.pointer (some ⟨b, 0, none⟩)]] [ros Ev.cells A exA, ro (some ⟨b, 0, none⟩) [.int .i64 0, .int .i64 1, .int .i64 0]] (fun v _ => v = .bool true) := by
  refine Does.enter Try.func31 rfl Try.ntmps31 rfl (fun w0 => ?_)
  refine To.seq ?_
  refine To.reg ?_
  refine To.rd rfl rfl rfl (Rd.assign rfl rfl) ?_
  refine To.nil ?_
  refine To.thenN ?_
  refine To.seq ?_
  refine To.reg ?_
  refine To.rd rfl rfl rfl (Rd.move rfl rfl) ?_
  refine To.rd rfl rfl rfl (Rd.move rfl rfl) ?_
  refine To.callV rfl rfl rfl (Ent.fn rfl rfl ca43) (idx1_fn A ca b) rfl (oks_cons (oks_at 0 rfl) (oks_cons (oks_at 1 rfl) (oks_nil _))) ?_
  refine To.rd rfl rfl rfl (Rd.geq rfl rfl rfl) ?_
  refine To.rd rfl rfl rfl (Rd.assign rfl rfl) ?_
  refine To.nil ?_
  refine To.thenN ?_
  refine To.ret ?_
  refine To.end1 (.inl rfl) Try.results31 rfl ?_
  rfl
set_option maxHeartbeats 2000000 in
set_option maxRecDepth 100000 in
theorem sends2_fn  :
    Does Try.prog 33 [.agg (Ev.cells ex0).toArray, .agg #[.int .i64 0, .int .i64 1, .int .i64 1]] [] (fun v _ => v = .bool false) := by
  refine Does.enter Try.func33 rfl Try.ntmps33 rfl (fun w0 => ?_)
  refine To.seq ?_
  refine To.reg ?_
  refine To.boxed rfl rfl rfl rfl rfl rfl (fun b2 => ?_)
  refine To.boxed rfl rfl rfl rfl rfl rfl (fun b3 => ?_)
  refine To.rd rfl rfl rfl (Rd.assign rfl rfl) ?_
  refine To.nil ?_
  refine To.thenN ?_
  refine To.seq ?_
  refine To.reg ?_
  refine To.rd rfl rfl rfl (Rd.field rfl rfl fl43_2) ?_
  refine To.rd rfl rfl rfl (Rd.load (i := 1) rfl rfl c40 rfl (box_gives1 rfl)) ?_
  refine To.rd rfl rfl rfl (Rd.eql rfl rfl rfl) ?_
  refine To.rd rfl rfl rfl (Rd.move rfl rfl) ?_
  refine To.rd rfl rfl rfl (Rd.field rfl rfl fl43_1) ?_
  refine To.rd rfl rfl rfl (Rd.load (i := 1) rfl rfl c3 rfl (box_gives1 rfl)) ?_
  refine To.rd rfl rfl rfl (Rd.field rfl rfl fl33_0) ?_
  refine To.rd rfl rfl rfl (Rd.load (i := 0) rfl rfl c3 rfl (box_gives1 rfl)) ?_
  refine To.rd rfl rfl rfl (Rd.eql rfl rfl rfl) ?_
  refine To.rd rfl rfl rfl (Rd.pickT rfl rfl rfl) ?_
  refine To.rd rfl rfl rfl (Rd.move rfl rfl) ?_
  refine To.rd rfl rfl rfl (Rd.field rfl rfl fl43_3) ?_
  refine To.rd rfl rfl rfl (Rd.load (i := 1) rfl rfl c3 rfl (box_gives1 rfl)) ?_
  refine To.rd rfl rfl rfl (Rd.field rfl rfl fl33_1) ?_
  refine To.rd rfl rfl rfl (Rd.load (i := 0) rfl rfl c3 rfl (box_gives1 rfl)) ?_
  refine To.rd rfl rfl rfl (Rd.eql rfl rfl rfl) ?_
  refine To.rd rfl rfl rfl (Rd.pickT rfl rfl rfl) ?_
  refine To.rd rfl rfl rfl (Rd.move rfl rfl) ?_
  refine To.rd rfl rfl rfl (Rd.field rfl rfl fl43_4) ?_
  refine To.rd rfl rfl rfl (Rd.load (i := 1) rfl rfl c3 rfl (box_gives1 rfl)) ?_
  refine To.rd rfl rfl rfl (Rd.field rfl rfl fl33_2) ?_
  refine To.rd rfl rfl rfl (Rd.load (i := 0) rfl rfl c3 rfl (box_gives1 rfl)) ?_
  refine To.rd rfl rfl rfl (Rd.eql rfl rfl rfl) ?_
  refine To.rd rfl rfl rfl (Rd.pickT rfl rfl rfl) ?_
  refine To.rd rfl rfl rfl (Rd.assign rfl rfl) ?_
  refine To.nil ?_
  refine To.sub [(0, .agg (Ev.cells ex0).toArray), (1, .agg #[.int .i64 0, .int .i64 1, .int .i64 1]), (2, .pointer (some ⟨b2, 0, none⟩)), (3, .pointer (some ⟨b3, 0, none⟩)), (4, .bool false)] ⟨rfl, rfl, rfl, rfl, rfl, trivial⟩ ?_
  refine To.thenN ?_
  refine To.ret ?_
  refine To.end1 (.inl rfl) Try.results33 rfl ?_
  rfl
set_option maxHeartbeats 2000000 in
set_option maxRecDepth 100000 in
theorem fate2_fn (b : Nat) :
    Does Try.prog 32 [.agg (Ev.cells ex0).toArray, .pointer (some ⟨b, 0, none⟩)] [ro (some ⟨b, 0, none⟩) [.int .i64 0, .int .i64 1, .int .i64 1]] (fun v _ => v = .bool false) := by
  refine Does.enter Try.func32 rfl Try.ntmps32 rfl (fun w0 => ?_)
  refine To.seq ?_
  refine To.reg ?_
  refine To.boxed rfl rfl rfl rfl rfl rfl (fun b2 => ?_)
  refine To.rd rfl rfl rfl (Rd.assign rfl rfl) ?_
  refine To.nil ?_
  refine To.thenN ?_
  refine To.seq ?_
  refine To.reg ?_
  refine To.rd rfl rfl rfl (Rd.loadS (i := 0) rfl rfl r43 rfl box_whole rfl) ?_
  refine To.rd rfl rfl rfl (Rd.loadS (i := 1) (us := [.int .i64 0, .int .i64 1, .int .i64 1]) rfl rfl r33 rfl (ro_gives (A := some ⟨b, 0, none⟩) (o := 0) (k := 3) rfl) rfl) ?_
  refine To.callV rfl rfl rfl (Ent.fn rfl rfl ca33) (sends2_fn) rfl (oks_nil _) ?_
  refine To.rd rfl rfl rfl (Rd.assign rfl rfl) ?_
  refine To.nil ?_
  refine To.thenN ?_
  refine To.ret ?_
  refine To.end1 (.inl rfl) Try.results32 rfl ?_
  rfl
set_option maxHeartbeats 2000000 in
set_option maxRecDepth 100000 in
theorem idx2_fn (A : Option Addr) (ca b : Nat) :
    Does Try.prog 43 [.slice A exA.length ca, .func (.func 32) #[] #[.pointer (some ⟨b, 0, none⟩)]] [ros Ev.cells A exA, ro (some ⟨b, 0, none⟩) [.int .i64 0, .int .i64 1, .int .i64 1]] (fun v _ => v = .int .i64 (-1)) := by
  refine Does.enter Try.func43 rfl Try.ntmps43 rfl (fun w0 => ?_)
  refine To.seq ?_
  refine To.reg ?_
  refine To.rd rfl rfl rfl (Rd.assign rfl rfl) ?_
  refine To.nil ?_
  refine To.thenN ?_
  refine To.seq ?_
  refine To.seq ?_
  refine To.reg ?_
  refine To.rd rfl rfl rfl (Rd.move rfl rfl) ?_
  refine To.rd rfl rfl rfl (Rd.len rfl rfl Try.underlying44) ?_
  refine To.rd rfl rfl rfl (Rd.move rfl rfl) ?_
  refine To.nil ?_
  refine To.thenN ?_
  refine To.block ?_
  refine To.rounds 2 ?_
  refine To.roundS ?_
  refine To.seq ?_
  refine To.reg ?_
  refine To.rd rfl rfl rfl (Rd.lss rfl rfl rfl) ?_
  refine To.nil ?_
  refine To.thenN ?_
  refine To.seq ?_
  refine To.condT rfl ?_
  refine To.skip ?_
  refine To.thenN ?_
  refine To.seq ?_
  refine To.block ?_
  refine To.seq ?_
  refine To.reg ?_
  refine To.rd rfl rfl rfl (Rd.move rfl rfl) ?_
  refine To.rd rfl rfl rfl (Rd.assign rfl rfl) ?_
  refine To.nil ?_
  refine To.thenN ?_
  refine To.seq ?_
  refine To.reg ?_
  refine To.rd rfl rfl rfl (Rd.move rfl rfl) ?_
  refine To.rd rfl rfl rfl (Rd.move rfl rfl) ?_
  refine To.rd rfl rfl rfl (Rd.move rfl rfl) ?_
  refine To.rd rfl rfl rfl (Rd.indexRos encE (i := 0) (j := 0) rfl rfl rfl s44 rfl hA0) ?_
  refine To.rd rfl rfl rfl (Rd.loadS (i := 0) rfl rfl r43 rfl (ros_gives encE hA0) (encE.len _)) ?_
  refine To.callV rfl rfl rfl (Ent.func (first := []) (captured := [.pointer (some ⟨b, 0, none⟩)]) rfl rfl rfl ca32) (fate2_fn b) rfl (oks_cons (oks_at 1 rfl) (oks_nil _)) ?_
  refine To.nil ?_
  refine To.thenN ?_
  refine To.condF rfl ?_
  refine To.skip ?_
  refine To.blockN ?_
  refine To.thenN ?_
  refine To.reg ?_
  refine To.rd rfl rfl rfl (Rd.as (v' := .int .i64 (1)) rfl (Rd.add64 (m := 0) (n := 1) rfl rfl rfl (by decide))) ?_
  refine To.rd rfl rfl rfl (Rd.move rfl rfl) ?_
  refine To.nil ?_
  refine To.thenN ?_
  refine To.roundS ?_
  refine To.seq ?_
  refine To.reg ?_
  refine To.rd rfl rfl rfl (Rd.lss rfl rfl rfl) ?_
  refine To.nil ?_
  refine To.thenN ?_
  refine To.seq ?_
  refine To.condF rfl ?_
  refine To.exit ?_
  refine To.thenX ?_
  refine To.thenX ?_
  refine To.blockX ?_
  refine To.thenN ?_
  refine To.seq ?_
  refine To.reg ?_
  refine To.rd rfl rfl rfl (Rd.assign rfl rfl) ?_
  refine To.nil ?_
  refine To.thenN ?_
  refine To.ret ?_
  refine To.end1 (.inl rfl) Try.results43 rfl ?_
  rfl
set_option maxHeartbeats 2000000 in
set_option maxRecDepth 100000 in
theorem has2_fn (A : Option Addr) (ca b : Nat) :
    Does Try.prog 31 [.slice A exA.length ca, .func (.func 32) #[] #[.pointer (some ⟨b, 0, none⟩)]] [ros Ev.cells A exA, ro (some ⟨b, 0, none⟩) [.int .i64 0, .int .i64 1, .int .i64 1]] (fun v _ => v = .bool false) := by
  refine Does.enter Try.func31 rfl Try.ntmps31 rfl (fun w0 => ?_)
  refine To.seq ?_
  refine To.reg ?_
  refine To.rd rfl rfl rfl (Rd.assign rfl rfl) ?_
  refine To.nil ?_
  refine To.thenN ?_
  refine To.seq ?_
  refine To.reg ?_
  refine To.rd rfl rfl rfl (Rd.move rfl rfl) ?_
  refine To.rd rfl rfl rfl (Rd.move rfl rfl) ?_
  refine To.callV rfl rfl rfl (Ent.fn rfl rfl ca43) (idx2_fn A ca b) rfl (oks_cons (oks_at 0 rfl) (oks_cons (oks_at 1 rfl) (oks_nil _))) ?_
  refine To.rd rfl rfl rfl (Rd.geq rfl rfl rfl) ?_
  refine To.rd rfl rfl rfl (Rd.assign rfl rfl) ?_
  refine To.nil ?_
  refine To.thenN ?_
  refine To.ret ?_
  refine To.end1 (.inl rfl) Try.results31 rfl ?_
  rfl
set_option maxHeartbeats 2000000 in
set_option maxRecDepth 100000 in
theorem arr_fn  :
    Does Try.prog 34 [.agg (Ev.cells ex0).toArray, .agg #[.int .i64 0, .int .i64 1, .int .i64 0]] [] (fun v _ => v = .bool false) := by
  refine Does.enter Try.func34 rfl Try.ntmps34 rfl (fun w0 => ?_)
  refine To.seq ?_
  refine To.reg ?_
  refine To.boxed rfl rfl rfl rfl rfl rfl (fun b2 => ?_)
  refine To.boxed rfl rfl rfl rfl rfl rfl (fun b3 => ?_)
  refine To.rd rfl rfl rfl (Rd.assign rfl rfl) ?_
  refine To.nil ?_
  refine To.thenN ?_
  refine To.seq ?_
  refine To.seq ?_
  refine To.reg ?_
  refine To.rd rfl rfl rfl (Rd.field rfl rfl fl43_2) ?_
  refine To.rd rfl rfl rfl (Rd.load (i := 1) rfl rfl c40 rfl (box_gives1 rfl)) ?_
  refine To.rd rfl rfl rfl (Rd.neq rfl rfl rfl) ?_
  refine To.rd rfl rfl rfl (Rd.move rfl rfl) ?_
  refine To.rd rfl rfl rfl (Rd.field rfl rfl fl43_2) ?_
  refine To.rd rfl rfl rfl (Rd.load (i := 1) rfl rfl c40 rfl (box_gives1 rfl)) ?_
  refine To.rd rfl rfl rfl (Rd.neq rfl rfl rfl) ?_
  refine To.rd rfl rfl rfl (Rd.move rfl rfl) ?_
  refine To.sk rfl rfl rfl ?_
  refine To.sk rfl rfl rfl ?_
  refine To.sk rfl rfl rfl ?_
  refine To.rd rfl rfl rfl (Rd.pickT rfl rfl rfl) ?_
  refine To.rd rfl rfl rfl (Rd.pickT rfl rfl rfl) ?_
  refine To.nil ?_
  refine To.thenN ?_
  refine To.condT rfl ?_
  refine To.seq ?_
  refine To.reg ?_
  refine To.rd rfl rfl rfl (Rd.assign rfl rfl) ?_
  refine To.nil ?_
  refine To.thenN ?_
  refine To.ret ?_
  refine To.thenR ?_
  refine To.end1 (.inl rfl) Try.results34 rfl ?_
  rfl
set_option maxHeartbeats 2000000 in
set_option maxRecDepth 100000 in
theorem ins0_fn (A : Option Addr) (ca : Nat) :
    Does Try.prog 49 [.slice A 0 ca, .int .i64 0, .int .i64 0, .func (.func 36) #[] #[]] [] (fun v Γ' => v = .tuple #[]) := by
  refine Does.enter Try.func49 rfl Try.ntmps49 rfl (fun w0 => ?_)
  refine To.seq ?_
  refine To.reg ?_
  refine To.rd rfl rfl rfl (Rd.move rfl rfl) ?_
  refine To.rd rfl rfl rfl (Rd.as (v' := .int .i64 (1)) rfl (Rd.add64 (m := 0) (n := 1) rfl rfl rfl (by decide))) ?_
  refine To.rd rfl rfl rfl (Rd.assign rfl rfl) ?_
  refine To.nil ?_
  refine To.thenN ?_
  refine To.block ?_
  refine To.rounds 1 ?_
  refine To.roundS ?_
  refine To.seq ?_
  refine To.seq ?_
  refine To.reg ?_
  refine To.rd rfl rfl rfl (Rd.move rfl rfl) ?_
  refine To.rd rfl rfl rfl (Rd.move rfl rfl) ?_
  refine To.rd rfl rfl rfl (Rd.lss rfl rfl rfl) ?_
  refine To.nil ?_
  refine To.thenN ?_
  refine To.condF rfl ?_
  refine To.exit ?_
  refine To.thenX ?_
  refine To.thenX ?_
  refine To.blockX ?_
  refine To.end0 (.inr rfl) Try.results49 ?_
  rfl
set_option maxHeartbeats 2000000 in
set_option maxRecDepth 100000 in
theorem st0_fn (A : Option Addr) (ca : Nat) :
    Does Try.prog 44 [.slice A 0 ca, .int .i64 0, .func (.func 36) #[] #[]] [] (fun v Γ' => v = .tuple #[]) := by
  refine Does.enter Try.func44 rfl Try.ntmps44 rfl (fun w0 => ?_)
  refine To.seq ?_
  refine To.reg ?_
  refine To.rd rfl rfl rfl (Rd.assign rfl rfl) ?_
  refine To.nil ?_
  refine To.thenN ?_
  refine To.seq ?_
  refine To.reg ?_
  refine To.rd rfl rfl rfl (Rd.move rfl rfl) ?_
  refine To.rd rfl rfl rfl (Rd.assign rfl rfl) ?_
  refine To.rd rfl rfl rfl (Rd.assign rfl rfl) ?_
  refine To.nil ?_
  refine To.thenN ?_
  refine To.seq ?_
  refine To.block ?_
  refine To.rounds 1 ?_
  refine To.roundS ?_
  refine To.seq ?_
  refine To.seq ?_
  refine To.reg ?_
  refine To.rd rfl rfl rfl (Rd.move rfl rfl) ?_
  refine To.rd rfl rfl rfl (Rd.move rfl rfl) ?_
  refine To.rd rfl rfl rfl (Rd.leq rfl rfl rfl) ?_
  refine To.nil ?_
  refine To.thenN ?_
  refine To.condF rfl ?_
  refine To.exit ?_
  refine To.thenX ?_
  refine To.thenX ?_
  refine To.blockX ?_
  refine To.thenN ?_
  refine To.seq ?_
  refine To.reg ?_
  refine To.rd rfl rfl rfl (Rd.move rfl rfl) ?_
  refine To.rd rfl rfl rfl (Rd.move rfl rfl) ?_
  refine To.rd rfl rfl rfl (Rd.move rfl rfl) ?_
  refine To.rd rfl rfl rfl (Rd.move rfl rfl) ?_
  refine To.callV rfl rfl rfl (Ent.fn rfl rfl ca49) (ins0_fn A ca) rfl (oks_nil _) ?_
  refine To.nil ?_
  refine To.thenN ?_
  refine To.block ?_
  refine To.rounds 1 ?_
  refine To.roundS ?_
  refine To.seq ?_
  refine To.seq ?_
  refine To.reg ?_
  refine To.rd rfl rfl rfl (Rd.move rfl rfl) ?_
  refine To.rd rfl rfl rfl (Rd.move rfl rfl) ?_
  refine To.rd rfl rfl rfl (Rd.lss rfl rfl rfl) ?_
  refine To.nil ?_
  refine To.thenN ?_
  refine To.condF rfl ?_
  refine To.exit ?_
  refine To.thenX ?_
  refine To.thenX ?_
  refine To.blockX ?_
  refine To.end0 (.inr rfl) Try.results44 ?_
  rfl
set_option maxHeartbeats 2000000 in
set_option maxRecDepth 100000 in
theorem sst0_fn (A : Option Addr) (ca : Nat) :
    Does Try.prog 35 [.slice A 0 ca, .func (.func 36) #[] #[]] [] (fun v Γ' => v = .tuple #[]) := by
  refine Does.enter Try.func35 rfl Try.ntmps35 rfl (fun w0 => ?_)
  refine To.reg ?_
  refine To.rd rfl rfl rfl (Rd.move rfl rfl) ?_
  refine To.rd rfl rfl rfl (Rd.move rfl rfl) ?_
  refine To.rd rfl rfl rfl (Rd.len rfl rfl Try.underlying44) ?_
  refine To.rd rfl rfl rfl (Rd.move rfl rfl) ?_
  refine To.callV rfl rfl rfl (Ent.fn rfl rfl ca44) (st0_fn A ca) rfl (oks_nil _) ?_
  refine To.nil ?_
  refine To.end0 (.inr rfl) Try.results35 ?_
  rfl
set_option maxHeartbeats 2000000 in
set_option maxRecDepth 100000 in
theorem fateA_fn (A : Option Addr) (ca : Nat) :
    Does Try.prog 14 [.slice A exA.length ca, .agg #[.int .i64 0, .int .i64 1, .int .i64 0]] [ros Ev.cells A exA] (fun v Γ' => v = .tuple #[.agg #[.int .i64 0, .int .i64 1, .int .i64 0, .slice none 0 0], .int .i64 0] ∧ Γ' = []) := by
  refine Does.enter Try.func14 rfl Try.ntmps14 rfl (fun w0 => ?_)
  refine To.seq ?_
  refine To.reg ?_
  refine To.boxed rfl rfl rfl rfl rfl rfl (fun b3 => ?_)
  refine To.alloc rfl rfl rfl rfl z49 (fun b4 => ?_)
  refine To.rd rfl rfl rfl (Rd.assign rfl rfl) ?_
  refine To.nil ?_
  refine To.thenN ?_
  refine To.seq ?_
  refine To.seq ?_
  refine To.reg ?_
  refine To.rd rfl rfl rfl (Rd.move rfl rfl) ?_
  refine To.rd rfl rfl rfl (Rd.makeFunc rfl rfl rfl) ?_
  refine To.callV rfl rfl rfl (Ent.fn rfl rfl ca31) (has1_fn A ca b3) rfl (oks_cons (oks_at 2 rfl) (oks_cons (oks_box 1 rfl) (oks_nil _))) ?_
  refine To.rd rfl rfl rfl (Rd.not rfl rfl) ?_
  refine To.nil ?_
  refine To.thenN ?_
  refine To.condF rfl ?_
  refine To.skip ?_
  refine To.thenN ?_
  refine To.seq ?_
  refine To.reg ?_
  refine To.rd rfl rfl rfl (Rd.assign rfl rfl) ?_
  refine To.nil ?_
  refine To.thenN ?_
  refine To.seq ?_
  refine To.seq ?_
  refine To.reg ?_
  refine To.rd rfl rfl rfl (Rd.move rfl rfl) ?_
  refine To.rd rfl rfl rfl (Rd.len rfl rfl Try.underlying44) ?_
  refine To.rd rfl rfl rfl (Rd.move rfl rfl) ?_
  refine To.nil ?_
  refine To.thenN ?_
  refine To.block ?_
  refine To.rounds 2 ?_
  refine To.roundS ?_
  refine To.seq ?_
  refine To.reg ?_
  refine To.rd rfl rfl rfl (Rd.lss rfl rfl rfl) ?_
  refine To.nil ?_
  refine To.thenN ?_
  refine To.seq ?_
  refine To.condT rfl ?_
  refine To.skip ?_
  refine To.thenN ?_
  refine To.seq ?_
  refine To.block ?_
  refine To.seq ?_
  refine To.reg ?_
  refine To.rd rfl rfl rfl (Rd.indexRos encE (i := 2) (j := 0) rfl rfl rfl s44 rfl hA0) ?_
  refine To.rd rfl rfl rfl (Rd.loadS (i := 2) rfl rfl r43 rfl (ros_gives encE hA0) (encE.len _)) ?_
  refine To.alloc rfl rfl rfl rfl z43 (fun b8 => ?_)
  refine To.up rfl rfl (Up.storeS (i := 0) rfl rfl rfl r43 rfl rfl rfl (box_takesAll rfl)) ?_
  refine To.nil ?_
  refine To.thenN ?_
  refine To.seq ?_
  refine To.reg ?_
  refine To.rd rfl rfl rfl (Rd.loadS (i := 0) rfl rfl r43 rfl box_whole rfl) ?_
  refine To.rd rfl rfl rfl (Rd.loadS (i := 2) rfl rfl r33 rfl box_whole rfl) ?_
  refine To.callV rfl rfl rfl (Ent.fn rfl rfl ca34) (arr_fn) rfl (oks_nil _) ?_
  refine To.nil ?_
  refine To.thenN ?_
  refine To.condF rfl ?_
  refine To.skip ?_
  refine To.blockN ?_
  refine To.thenN ?_
  refine To.reg ?_
  refine To.rd rfl rfl rfl (Rd.as (v' := .int .i64 (1)) rfl (Rd.add64 (m := 0) (n := 1) rfl rfl rfl (by decide))) ?_
  refine To.rd rfl rfl rfl (Rd.move rfl rfl) ?_
  refine To.nil ?_
  refine To.thenN ?_
  refine To.roundS ?_
  refine To.seq ?_
  refine To.reg ?_
  refine To.rd rfl rfl rfl (Rd.lss rfl rfl rfl) ?_
  refine To.nil ?_
  refine To.thenN ?_
  refine To.seq ?_
  refine To.condF rfl ?_
  refine To.exit ?_
  refine To.thenX ?_
  refine To.thenX ?_
  refine To.blockX ?_
  refine To.thenN ?_
  refine To.seq ?_
  refine To.reg ?_
  refine To.rd rfl rfl rfl (Rd.move rfl rfl) ?_
  refine To.callV rfl rfl rfl (Ent.fn rfl rfl ca35) (sst0_fn none 0) rfl (oks_nil _) ?_
  refine To.nil ?_
  refine To.thenN ?_
  refine To.seq ?_
  refine To.reg ?_
  refine To.rd rfl rfl rfl (Rd.loadS (i := 2) rfl rfl r33 rfl box_whole rfl) ?_
  refine To.rd rfl rfl rfl (Rd.build (vs := [(0, .agg #[.int .i64 0, .int .i64 1, .int .i64 0])]) (cells := [.int .i64 0, .int .i64 1, .int .i64 0, .slice none 0 0]) rfl rfl rfl (by kernel_rfl)) ?_
  refine To.alloc rfl rfl rfl rfl z49 (fun b9 => ?_)
  refine To.up rfl rfl (Up.storeS (i := 0) rfl rfl rfl r49 rfl rfl rfl (box_takesAll rfl)) ?_
  refine To.nil ?_
  refine To.thenN ?_
  refine To.seq ?_
  refine To.seq ?_
  refine To.reg ?_
  refine To.rd rfl rfl rfl (Rd.move rfl rfl) ?_
  refine To.rd rfl rfl rfl (Rd.len rfl rfl Try.underlying44) ?_
  refine To.rd rfl rfl rfl (Rd.move rfl rfl) ?_
  refine To.nil ?_
  refine To.thenN ?_
  refine To.block ?_
  refine To.rounds 1 ?_
  refine To.roundS ?_
  refine To.seq ?_
  refine To.reg ?_
  refine To.rd rfl rfl rfl (Rd.lss rfl rfl rfl) ?_
  refine To.nil ?_
  refine To.thenN ?_
  refine To.seq ?_
  refine To.condF rfl ?_
  refine To.exit ?_
  refine To.thenX ?_
  refine To.thenX ?_
  refine To.blockX ?_
  refine To.thenN ?_
  refine To.seq ?_
  refine To.reg ?_
  refine To.rd rfl rfl rfl (Rd.loadS (i := 0) rfl rfl r49 rfl box_whole rfl) ?_
  refine To.up rfl rfl (Up.storeS (i := 2) rfl rfl rfl r49 rfl rfl rfl (box_takesAll rfl)) ?_
  refine To.rd rfl rfl rfl (Rd.assign rfl rfl) ?_
  refine To.nil ?_
  refine To.sub [(0, .slice A exA.length ca), (1, .agg #[.int .i64 0, .int .i64 1, .int .i64 0]), (3, .pointer (some ⟨b3, 0, none⟩)), (4, .pointer (some ⟨b4, 0, none⟩)), (5, .int .i64 0), (15, .bool false), (6, .slice none 0 0), (17, .slice A exA.length ca), (18, .int .i64 ((exA.length : Nat) : Int)), (19, .int .i64 1), (20, .bool false), (8, .pointer (some ⟨b8, 0, none⟩)), (25, .bool false), (9, .pointer (some ⟨b9, 0, none⟩)), (35, .slice none 0 0), (36, .int .i64 ((0 : Nat) : Int)), (37, .int .i64 0), (38, .bool false)] ⟨rfl, rfl, rfl, rfl, rfl, rfl, rfl, rfl, rfl, rfl, rfl, rfl, rfl, rfl, rfl, rfl, rfl, rfl, trivial⟩ ?_
  refine To.thenN ?_
  refine To.ret ?_
  refine To.endCT [] rfl (.inl rfl) Try.results14 rfl (i := 2) rfl r49 rfl rfl ?_
  exact ⟨rfl, rfl⟩
set_option maxHeartbeats 2000000 in
set_option maxRecDepth 100000 in
theorem fateB_fn (A : Option Addr) (ca : Nat) :
    Does Try.prog 14 [.slice A exA.length ca, .agg #[.int .i64 0, .int .i64 1, .int .i64 1]] [ros Ev.cells A exA] (fun v Γ' => v = .tuple #[.agg #[.int .i64 0, .int .i64 0, .int .i64 0, .slice none 0 0], .int .i64 4] ∧ Γ' = []) := by
  refine Does.enter Try.func14 rfl Try.ntmps14 rfl (fun w0 => ?_)
  refine To.seq ?_
  refine To.reg ?_
  refine To.boxed rfl rfl rfl rfl rfl rfl (fun b3 => ?_)
  refine To.alloc rfl rfl rfl rfl z49 (fun b4 => ?_)
  refine To.rd rfl rfl rfl (Rd.assign rfl rfl) ?_
  refine To.nil ?_
  refine To.thenN ?_
  refine To.seq ?_
  refine To.seq ?_
  refine To.reg ?_
  refine To.rd rfl rfl rfl (Rd.move rfl rfl) ?_
  refine To.rd rfl rfl rfl (Rd.makeFunc rfl rfl rfl) ?_
  refine To.callV rfl rfl rfl (Ent.fn rfl rfl ca31) (has2_fn A ca b3) rfl (oks_cons (oks_at 2 rfl) (oks_cons (oks_box 1 rfl) (oks_nil _))) ?_
  refine To.rd rfl rfl rfl (Rd.not rfl rfl) ?_
  refine To.nil ?_
  refine To.thenN ?_
  refine To.condT rfl ?_
  refine To.seq ?_
  refine To.reg ?_
  refine To.rd rfl rfl rfl (Rd.build (vs := []) (cells := [.int .i64 0, .int .i64 0, .int .i64 0, .slice none 0 0]) rfl rfl rfl (by kernel_rfl)) ?_
  refine To.up rfl rfl (Up.storeS (i := 0) rfl rfl rfl r49 rfl rfl rfl (box_takesAll rfl)) ?_
  refine To.rd rfl rfl rfl (Rd.assign rfl rfl) ?_
  refine To.nil ?_
  refine To.thenN ?_
  refine To.ret ?_
  refine To.thenR ?_
  refine To.endCT [] rfl (.inl rfl) Try.results14 rfl (i := 0) rfl r49 rfl rfl ?_
  exact ⟨rfl, rfl⟩
set_option maxHeartbeats 2000000 in
set_option maxRecDepth 100000 in
theorem comp_fn (A : Option Addr) (ca : Nat) :
    Does Try.prog 38 [.slice A 1 ca] [] (fun v _ => v = .slice A 1 ca) := by
  refine Does.enter Try.func38 rfl Try.ntmps38 rfl (fun w0 => ?_)
  refine To.seq ?_
  refine To.reg ?_
  refine To.rd rfl rfl rfl (Rd.assign rfl rfl) ?_
  refine To.nil ?_
  refine To.thenN ?_
  refine To.seq ?_
  refine To.seq ?_
  refine To.reg ?_
  refine To.rd rfl rfl rfl (Rd.move rfl rfl) ?_
  refine To.rd rfl rfl rfl (Rd.len rfl rfl Try.underlying23) ?_
  refine To.rd rfl rfl rfl (Rd.lss rfl rfl rfl) ?_
  refine To.nil ?_
  refine To.thenN ?_
  refine To.condT rfl ?_
  refine To.seq ?_
  refine To.reg ?_
  refine To.rd rfl rfl rfl (Rd.move rfl rfl) ?_
  refine To.rd rfl rfl rfl (Rd.assign rfl rfl) ?_
  refine To.nil ?_
  refine To.thenN ?_
  refine To.ret ?_
  refine To.thenR ?_
  refine To.end1 (.inl rfl) Try.results38 rfl ?_
  rfl
set_option maxHeartbeats 2000000 in
set_option maxRecDepth 100000 in
theorem msgs_fn (B : Option Addr) (cb : Nat) :
    Does Try.prog 15 [.slice B exB.length cb] [ros Ev.cells B exB] (fun v Γ' => ∃ A q, v = .slice A 1 q ∧ Γ' = [rows Ms.cells 33 3 A q [ms1]]) := by
  refine Does.enter Try.func15 rfl Try.ntmps15 rfl (fun w0 => ?_)
  refine To.seq ?_
  refine To.reg ?_
  refine To.rd rfl rfl rfl (Rd.assign rfl rfl) ?_
  refine To.nil ?_
  refine To.thenN ?_
  refine To.seq ?_
  refine To.nilRow (Ms.cells) 33 3 ?_
  refine To.reg ?_
  refine To.rd rfl rfl rfl (Rd.assign rfl rfl) ?_
  refine To.nil ?_
  refine To.thenN ?_
  refine To.seq ?_
  refine To.seq ?_
  refine To.reg ?_
  refine To.rd rfl rfl rfl (Rd.move rfl rfl) ?_
  refine To.rd rfl rfl rfl (Rd.len rfl rfl Try.underlying44) ?_
  refine To.rd rfl rfl rfl (Rd.move rfl rfl) ?_
  refine To.nil ?_
  refine To.thenN ?_
  refine To.block ?_
  refine To.rounds 3 ?_
  refine To.roundS ?_
  refine To.seq ?_
  refine To.reg ?_
  refine To.rd rfl rfl rfl (Rd.lss rfl rfl rfl) ?_
  refine To.nil ?_
  refine To.thenN ?_
  refine To.seq ?_
  refine To.condT rfl ?_
  refine To.skip ?_
  refine To.thenN ?_
  refine To.seq ?_
  refine To.block ?_
  refine To.seq ?_
  refine To.reg ?_
  refine To.rd rfl rfl rfl (Rd.indexRos encE (i := 1) (j := 0) rfl rfl rfl s44 rfl hB0) ?_
  refine To.rd rfl rfl rfl (Rd.loadS (i := 1) rfl rfl r43 rfl (ros_gives encE hB0) (encE.len _)) ?_
  refine To.alloc rfl rfl rfl rfl z43 (fun b5 => ?_)
  refine To.up rfl rfl (Up.storeS (i := 0) rfl rfl rfl r43 rfl rfl rfl (box_takesAll rfl)) ?_
  refine To.nil ?_
  refine To.thenN ?_
  refine To.seq ?_
  refine To.reg ?_
  refine To.rd rfl rfl rfl (Rd.field rfl rfl fl43_2) ?_
  refine To.rd rfl rfl rfl (Rd.load (i := 0) rfl rfl c40 rfl (box_gives1 rfl)) ?_
  refine To.rd rfl rfl rfl (Rd.eql rfl rfl rfl) ?_
  refine To.nil ?_
  refine To.thenN ?_
  refine To.condT rfl ?_
  refine To.reg ?_
  refine To.rd rfl rfl rfl (Rd.move rfl rfl) ?_
  refine To.rd rfl rfl rfl (Rd.field rfl rfl fl43_1) ?_
  refine To.rd rfl rfl rfl (Rd.load (i := 0) rfl rfl c3 rfl (box_gives1 rfl)) ?_
  refine To.rd rfl rfl rfl (Rd.field rfl rfl fl43_3) ?_
  refine To.rd rfl rfl rfl (Rd.load (i := 0) rfl rfl c3 rfl (box_gives1 rfl)) ?_
  refine To.rd rfl rfl rfl (Rd.field rfl rfl fl43_4) ?_
  refine To.rd rfl rfl rfl (Rd.load (i := 0) rfl rfl c3 rfl (box_gives1 rfl)) ?_
  refine To.rd rfl rfl rfl (Rd.build (vs := [(0, .int .i64 0), (1, .int .i64 1), (2, .int .i64 0)]) (cells := [.int .i64 0, .int .i64 1, .int .i64 0]) rfl rfl rfl (by kernel_rfl)) ?_
  refine To.mk rfl rfl rfl (Mk.sliceN (us := [.int .i64 0, .int .i64 1, .int .i64 0]) rfl s23 rfl rfl rfl rfl rfl rfl) ?_
  rintro _ _ ⟨b23, rfl, rfl⟩
  refine To.as [row 33 3 (some ⟨b23, 0, none⟩) 1 1 [.int .i64 0, .int .i64 1, .int .i64 0], box b5 [.int .i64 0, .int .i64 0, .int .u8 8, .int .i64 1, .int .i64 0, .int .i64 0, .int .i64 2, .int .i64 0, .slice none 0 0] 43, rows Ms.cells 33 3 none 0 ([] : List Ms), ros Ev.cells B exB] rfl ?_
  refine To.ge rfl rfl rfl (Ge.append1 encM (i := 2) (j := 0) (el := ms1) rfl s23 rfl rfl rfl rfl rfl (by first | omega | (simp only [List.length_append, List.length_cons, List.length_nil]; omega)) (by first | omega | (simp only [List.length_append, List.length_cons, List.length_nil]; omega))) ?_
  rintro _ _ ⟨A24, q24, rfl, rfl⟩
  refine To.as [row 33 3 (some ⟨b23, 0, none⟩) 1 1 [.int .i64 0, .int .i64 1, .int .i64 0], box b5 [.int .i64 0, .int .i64 0, .int .u8 8, .int .i64 1, .int .i64 0, .int .i64 0, .int .i64 2, .int .i64 0, .slice none 0 0] 43, rows Ms.cells 33 3 A24 q24 (([] : List Ms) ++ [ms1]), ros Ev.cells B exB] rfl ?_
  refine To.rd rfl rfl rfl (Rd.assign rfl rfl) ?_
  refine To.nil ?_
  refine To.sub [(0, .slice B exB.length cb), (2, .slice none 0 0), (3, .slice A24 ((([] : List Ms) ++ [ms1]).length) q24), (6, .slice B exB.length cb), (7, .int .i64 ((exB.length : Nat) : Int)), (8, .int .i64 0), (9, .bool true), (5, .pointer (some ⟨b5, 0, none⟩)), (14, .bool true)] ⟨rfl, rfl, rfl, rfl, rfl, rfl, rfl, rfl, rfl, trivial⟩ ?_
  refine To.blockN ?_
  refine To.thenN ?_
  refine To.reg ?_
  refine To.rd rfl rfl rfl (Rd.as (v' := .int .i64 (1)) rfl (Rd.add64 (m := 0) (n := 1) rfl rfl rfl (by decide))) ?_
  refine To.rd rfl rfl rfl (Rd.move rfl rfl) ?_
  refine To.nil ?_
  refine To.thenN ?_
  refine To.roundS ?_
  refine To.seq ?_
  refine To.reg ?_
  refine To.rd rfl rfl rfl (Rd.lss rfl rfl rfl) ?_
  refine To.nil ?_
  refine To.thenN ?_
  refine To.seq ?_
  refine To.condT rfl ?_
  refine To.skip ?_
  refine To.thenN ?_
  refine To.seq ?_
  refine To.block ?_
  refine To.seq ?_
  refine To.reg ?_
  refine To.rd rfl rfl rfl (Rd.indexRos encE (i := 3) (j := 1) rfl rfl rfl s44 rfl hB1) ?_
  refine To.rd rfl rfl rfl (Rd.loadS (i := 3) rfl rfl r43 rfl (ros_gives encE hB1) (encE.len _)) ?_
  refine To.alloc rfl rfl rfl rfl z43 (fun b5_2 => ?_)
  refine To.up rfl rfl (Up.storeS (i := 0) rfl rfl rfl r43 rfl rfl rfl (box_takesAll rfl)) ?_
  refine To.nil ?_
  refine To.thenN ?_
  refine To.seq ?_
  refine To.reg ?_
  refine To.rd rfl rfl rfl (Rd.field rfl rfl fl43_2) ?_
  refine To.rd rfl rfl rfl (Rd.load (i := 0) rfl rfl c40 rfl (box_gives1 rfl)) ?_
  refine To.rd rfl rfl rfl (Rd.eql rfl rfl rfl) ?_
  refine To.nil ?_
  refine To.thenN ?_
  refine To.condF rfl ?_
  refine To.skip ?_
  refine To.blockN ?_
  refine To.thenN ?_
  refine To.reg ?_
  refine To.rd rfl rfl rfl (Rd.as (v' := .int .i64 (2)) rfl (Rd.add64 (m := 1) (n := 1) rfl rfl rfl (by decide))) ?_
  refine To.rd rfl rfl rfl (Rd.move rfl rfl) ?_
  refine To.nil ?_
  refine To.thenN ?_
  refine To.roundS ?_
  refine To.seq ?_
  refine To.reg ?_
  refine To.rd rfl rfl rfl (Rd.lss rfl rfl rfl) ?_
  refine To.nil ?_
  refine To.thenN ?_
  refine To.seq ?_
  refine To.condF rfl ?_
  refine To.exit ?_
  refine To.thenX ?_
  refine To.thenX ?_
  refine To.blockX ?_
  refine To.thenN ?_
  refine To.seq ?_
  refine To.reg ?_
  refine To.rd rfl rfl rfl (Rd.move rfl rfl) ?_
  refine To.call [3] rfl rfl rfl (Ent.fn rfl rfl ca37) rfl (sortMessage_fn A24 q24 [ms1] (by decide)) ?_
  rintro _ _ ⟨rfl, rfl⟩
  refine To.as [rows Ms.cells 33 3 A24 q24 (isort Ms.cmp [ms1]), box b5_2 [.int .i64 7, .int .i64 0, .int .u8 11, .int .i64 0, .int .i64 0, .int .i64 0, .int .i64 0, .int .i64 0, .slice none 0 0] 43, row 33 3 (some ⟨b23, 0, none⟩) 1 1 [.int .i64 0, .int .i64 1, .int .i64 0], box b5 [.int .i64 0, .int .i64 0, .int .u8 8, .int .i64 1, .int .i64 0, .int .i64 0, .int .i64 2, .int .i64 0, .slice none 0 0] 43, ros Ev.cells B exB] rfl ?_
  refine To.nil ?_
  refine To.thenN ?_
  refine To.seq ?_
  refine To.reg ?_
  refine To.rd rfl rfl rfl (Rd.move rfl rfl) ?_
  refine To.callV rfl rfl rfl (Ent.fn rfl rfl ca38) (comp_fn A24 q24) rfl (oks_nil _) ?_
  refine To.rd rfl rfl rfl (Rd.assign rfl rfl) ?_
  refine To.nil ?_
  refine To.thenN ?_
  refine To.ret ?_
  refine To.only [0] rfl ?_
  refine To.end1 (.inl rfl) Try.results15 rfl ?_
  exact ⟨_, _, rfl, rfl⟩
set_option maxHeartbeats 2000000 in
set_option maxRecDepth 100000 in
theorem awake_fn  :
    Does Try.prog 4 [] [] (fun v _ => v = .bool true) := by
  refine Does.enter Try.func4 rfl Try.ntmps4 rfl (fun w0 => ?_)
  refine To.seq ?_
  refine To.reg ?_
  refine To.rd rfl rfl rfl (Rd.assign rfl rfl) ?_
  refine To.nil ?_
  refine To.thenN ?_
  refine To.seq ?_
  refine To.reg ?_
  refine To.rd rfl rfl rfl (Rd.build (vs := [(2, .int .u8 8), (3, .int .i64 1), (6, .int .i64 2)]) (cells := [.int .i64 0, .int .i64 0, .int .u8 8, .int .i64 1, .int .i64 0, .int .i64 0, .int .i64 2, .int .i64 0, .slice none 0 0]) rfl rfl rfl (by kernel_rfl)) ?_
  refine To.mk rfl rfl rfl (Mk.sliceN (us := [.int .i64 0, .int .i64 0, .int .u8 8, .int .i64 1, .int .i64 0, .int .i64 0, .int .i64 2, .int .i64 0, .slice none 0 0]) rfl s44 rfl rfl rfl rfl rfl rfl) ?_
  rintro _ _ ⟨b12, rfl, rfl⟩
  refine To.as [row 43 9 (some ⟨b12, 0, none⟩) 1 1 [.int .i64 0, .int .i64 0, .int .u8 8, .int .i64 1, .int .i64 0, .int .i64 0, .int .i64 2, .int .i64 0, .slice none 0 0]] rfl ?_
  refine To.rd rfl rfl rfl (Rd.assign rfl rfl) ?_
  refine To.nil ?_
  refine To.thenN ?_
  refine To.seq ?_
  refine To.as [rows Ev.cells 43 9 (some ⟨b12, 0, none⟩) 1 exA] rfl ?_
  refine To.sub [(1, .slice (some ⟨b12, 0, none⟩) exA.length 1)] ⟨rfl, trivial⟩ ?_
  refine To.reg ?_
  refine To.mk rfl rfl rfl (Mk.slice0R (enc := Ev.cells) rfl s44) ?_
  rintro _ _ ⟨A13, rfl, rfl⟩
  refine To.as [rows Ev.cells 43 9 A13 0 ([] : List Ev), rows Ev.cells 43 9 (some ⟨b12, 0, none⟩) 1 exA] rfl ?_
  refine To.rd rfl rfl rfl (Rd.move rfl rfl) ?_
  refine To.ge rfl rfl rfl (Ge.appendL encE (i := 0) (m := exA) rfl s44 rfl rfl rfl (src_row (i := 1) rfl) (by first | omega | (simp only [List.length_append, List.length_cons, List.length_nil]; omega)) (by first | omega | (simp only [List.length_append, List.length_cons, List.length_nil]; omega))) ?_
  rintro _ _ ⟨A15, q15, rfl, rfl⟩
  refine To.as [rows Ev.cells 43 9 A15 q15 (([] : List Ev) ++ exA), rows Ev.cells 43 9 (some ⟨b12, 0, none⟩) 1 exA] rfl ?_
  refine To.rd rfl rfl rfl (Rd.build (vs := [(0, .int .i64 7), (2, .int .u8 11)]) (cells := [.int .i64 7, .int .i64 0, .int .u8 11, .int .i64 0, .int .i64 0, .int .i64 0, .int .i64 0, .int .i64 0, .slice none 0 0]) rfl rfl rfl (by kernel_rfl)) ?_
  refine To.mk rfl rfl rfl (Mk.sliceN (us := [.int .i64 7, .int .i64 0, .int .u8 11, .int .i64 0, .int .i64 0, .int .i64 0, .int .i64 0, .int .i64 0, .slice none 0 0]) rfl s44 rfl rfl rfl rfl rfl rfl) ?_
  rintro _ _ ⟨b17, rfl, rfl⟩
  refine To.as [row 43 9 (some ⟨b17, 0, none⟩) 1 1 [.int .i64 7, .int .i64 0, .int .u8 11, .int .i64 0, .int .i64 0, .int .i64 0, .int .i64 0, .int .i64 0, .slice none 0 0], rows Ev.cells 43 9 A15 q15 (([] : List Ev) ++ exA), rows Ev.cells 43 9 (some ⟨b12, 0, none⟩) 1 exA] rfl ?_
  refine To.ge rfl rfl rfl (Ge.append1 encE (i := 1) (j := 0) (el := ex1) rfl s44 rfl rfl rfl rfl rfl (by first | omega | (simp only [List.length_append, List.length_cons, List.length_nil]; omega)) (by first | omega | (simp only [List.length_append, List.length_cons, List.length_nil]; omega))) ?_
  rintro _ _ ⟨A18, q18, rfl, rfl⟩
  refine To.as [row 43 9 (some ⟨b17, 0, none⟩) 1 1 [.int .i64 7, .int .i64 0, .int .u8 11, .int .i64 0, .int .i64 0, .int .i64 0, .int .i64 0, .int .i64 0, .slice none 0 0], rows Ev.cells 43 9 A18 q18 (([] : List Ev) ++ exA ++ [ex1]), rows Ev.cells 43 9 (some ⟨b12, 0, none⟩) 1 exA] rfl ?_
  refine To.rd rfl rfl rfl (Rd.assign rfl rfl) ?_
  refine To.nil ?_
  refine To.thenN ?_
  refine To.seq ?_
  refine To.only [1, 1] rfl ?_
  refine To.as [rows Ev.cells 43 9 A18 q18 exB, rows Ev.cells 43 9 (some ⟨b12, 0, none⟩) 1 exA] rfl ?_
  refine To.sub [(1, .slice (some ⟨b12, 0, none⟩) exA.length 1), (2, .slice A18 exB.length q18)] ⟨rfl, rfl, trivial⟩ ?_
  refine To.only [1, 0] rfl ?_
  refine To.layRow ?_
  refine To.only [1, 0] rfl ?_
  refine To.layRow ?_
  refine To.reg ?_
  refine To.rd rfl rfl rfl (Rd.move rfl rfl) ?_
  refine To.rd rfl rfl rfl (Rd.move rfl rfl) ?_
  refine To.callV rfl rfl rfl (Ent.fn rfl rfl ca13) (div_fn (some ⟨b12, 0, none⟩) A18 1 q18) rfl (oks_cons (oks_at 1 rfl) (oks_cons (oks_at 0 rfl) (oks_nil _))) ?_
  refine To.rd rfl rfl rfl (Rd.move rfl rfl) ?_
  refine To.rd rfl rfl rfl (Rd.extract rfl rfl rfl) ?_
  refine To.rd rfl rfl rfl (Rd.extract rfl rfl rfl) ?_
  refine To.rd rfl rfl rfl (Rd.extract rfl rfl rfl) ?_
  refine To.rd rfl rfl rfl (Rd.assign rfl rfl) ?_
  refine To.rd rfl rfl rfl (Rd.assign rfl rfl) ?_
  refine To.rd rfl rfl rfl (Rd.assign rfl rfl) ?_
  refine To.nil ?_
  refine To.thenN ?_
  refine To.seq ?_
  refine To.reg ?_
  refine To.rd rfl rfl rfl (Rd.move rfl rfl) ?_
  refine To.rd rfl rfl rfl (Rd.build (vs := [(1, .int .i64 1)]) (cells := [.int .i64 0, .int .i64 1, .int .i64 0]) rfl rfl rfl (by kernel_rfl)) ?_
  refine To.callQ rfl rfl rfl (Ent.fn rfl rfl ca14) (fateA_fn (some ⟨b12, 0, none⟩) 1) rfl (oks_cons (oks_at 1 rfl) (oks_nil _)) ?_
  rintro _ _ ⟨rfl, rfl⟩
  refine ⟨rfl, ?_⟩
  refine To.as [ros Ev.cells A18 exB, ros Ev.cells (some ⟨b12, 0, none⟩) exA] rfl ?_
  refine To.rd rfl rfl rfl (Rd.move rfl rfl) ?_
  refine To.rd rfl rfl rfl (Rd.extract rfl rfl rfl) ?_
  refine To.rd rfl rfl rfl (Rd.extract rfl rfl rfl) ?_
  refine To.alloc rfl rfl rfl rfl z49 (fun b6 => ?_)
  refine To.up rfl rfl (Up.storeS (i := 0) rfl rfl rfl r49 rfl rfl rfl (box_takesAll rfl)) ?_
  refine To.rd rfl rfl rfl (Rd.assign rfl rfl) ?_
  refine To.nil ?_
  refine To.sub [(1, .slice (some ⟨b12, 0, none⟩) exA.length 1), (2, .slice A18 exB.length q18), (3, .int .i64 7), (4, .int .i64 1), (5, .bool false), (6, .pointer (some ⟨b6, 0, none⟩)), (7, .int .i64 0)] ⟨rfl, rfl, rfl, rfl, rfl, rfl, rfl, trivial⟩ ?_
  refine To.thenN ?_
  refine To.seq ?_
  refine To.reg ?_
  refine To.rd rfl rfl rfl (Rd.move rfl rfl) ?_
  refine To.rd rfl rfl rfl (Rd.build (vs := [(1, .int .i64 1), (2, .int .i64 1)]) (cells := [.int .i64 0, .int .i64 1, .int .i64 1]) rfl rfl rfl (by kernel_rfl)) ?_
  refine To.callQ rfl rfl rfl (Ent.fn rfl rfl ca14) (fateB_fn (some ⟨b12, 0, none⟩) 1) rfl (oks_cons (oks_at 2 rfl) (oks_nil _)) ?_
  rintro _ _ ⟨rfl, rfl⟩
  refine ⟨rfl, ?_⟩
  refine To.as [box b6 [.int .i64 0, .int .i64 1, .int .i64 0, .slice none 0 0] 49, ros Ev.cells A18 exB, ros Ev.cells (some ⟨b12, 0, none⟩) exA] rfl ?_
  refine To.rd rfl rfl rfl (Rd.move rfl rfl) ?_
  refine To.rd rfl rfl rfl (Rd.extract rfl rfl rfl) ?_
  refine To.rd rfl rfl rfl (Rd.extract rfl rfl rfl) ?_
  refine To.alloc rfl rfl rfl rfl z49 (fun b8 => ?_)
  refine To.up rfl rfl (Up.storeS (i := 0) rfl rfl rfl r49 rfl rfl rfl (box_takesAll rfl)) ?_
  refine To.rd rfl rfl rfl (Rd.assign rfl rfl) ?_
  refine To.nil ?_
  refine To.thenN ?_
  refine To.seq ?_
  refine To.reg ?_
  refine To.rd rfl rfl rfl (Rd.move rfl rfl) ?_
  refine To.callQ rfl rfl rfl (Ent.fn rfl rfl ca15) (msgs_fn A18 q18) rfl (oks_cons (oks_at 2 rfl) (oks_nil _)) ?_
  rintro _ _ ⟨Am, qm, rfl, rfl⟩
  refine ⟨rfl, ?_⟩
  refine To.as [rows Ms.cells 33 3 Am qm [ms1], box b8 [.int .i64 0, .int .i64 0, .int .i64 0, .slice none 0 0] 49, box b6 [.int .i64 0, .int .i64 1, .int .i64 0, .slice none 0 0] 49, ros Ev.cells A18 exB, ros Ev.cells (some ⟨b12, 0, none⟩) exA] rfl ?_
  refine To.rd rfl rfl rfl (Rd.assign rfl rfl) ?_
  refine To.nil ?_
  refine To.thenN ?_
  refine To.seq ?_
  refine To.reg ?_
  refine To.rd rfl rfl rfl (Rd.move rfl rfl) ?_
  refine To.rd rfl rfl rfl (Rd.eql rfl rfl rfl) ?_
  refine To.rd rfl rfl rfl (Rd.move rfl rfl) ?_
  refine To.rd rfl rfl rfl (Rd.move rfl rfl) ?_
  refine To.rd rfl rfl rfl (Rd.eql rfl rfl rfl) ?_
  refine To.rd rfl rfl rfl (Rd.pickT rfl rfl rfl) ?_
  refine To.rd rfl rfl rfl (Rd.move rfl rfl) ?_
  refine To.rd rfl rfl rfl (Rd.move rfl rfl) ?_
  refine To.rd rfl rfl rfl (Rd.not rfl rfl) ?_
  refine To.rd rfl rfl rfl (Rd.pickT rfl rfl rfl) ?_
  refine To.rd rfl rfl rfl (Rd.move rfl rfl) ?_
  refine To.rd rfl rfl rfl (Rd.move rfl rfl) ?_
  refine To.rd rfl rfl rfl (Rd.eql rfl rfl rfl) ?_
  refine To.rd rfl rfl rfl (Rd.pickT rfl rfl rfl) ?_
  refine To.rd rfl rfl rfl (Rd.move rfl rfl) ?_
  refine To.rd rfl rfl rfl (Rd.field rfl rfl fl49_1) ?_
  refine To.rd rfl rfl rfl (Rd.load (i := 2) rfl rfl c47 rfl (box_gives1 rfl)) ?_
  refine To.rd rfl rfl rfl (Rd.len rfl rfl Try.underlying47) ?_
  refine To.rd rfl rfl rfl (Rd.eql rfl rfl rfl) ?_
  refine To.rd rfl rfl rfl (Rd.pickT rfl rfl rfl) ?_
  refine To.rd rfl rfl rfl (Rd.move rfl rfl) ?_
  refine To.rd rfl rfl rfl (Rd.field rfl rfl fl49_0) ?_
  refine To.rd rfl rfl rfl (Rd.loadS (i := 2) (us := [.int .i64 0, .int .i64 1, .int .i64 0]) rfl rfl r33 rfl (box_gives (n := 3) rfl) rfl) ?_
  refine To.rd rfl rfl rfl (Rd.build (vs := [(1, .int .i64 1)]) (cells := [.int .i64 0, .int .i64 1, .int .i64 0]) rfl rfl rfl (by kernel_rfl)) ?_
  refine To.rd rfl rfl rfl (Rd.as (v' := .bool (true)) (congrArg Value.bool (decide_eq_true rfl)) (Rd.eqlF (ks := [.i64, .i64, .i64]) (xs := [0, 1, 0]) (ys := [0, 1, 0]) flatM rfl rfl rfl rfl rfl)) ?_
  refine To.rd rfl rfl rfl (Rd.pickT rfl rfl rfl) ?_
  refine To.rd rfl rfl rfl (Rd.move rfl rfl) ?_
  refine To.rd rfl rfl rfl (Rd.move rfl rfl) ?_
  refine To.rd rfl rfl rfl (Rd.eql rfl rfl rfl) ?_
  refine To.rd rfl rfl rfl (Rd.pickT rfl rfl rfl) ?_
  refine To.rd rfl rfl rfl (Rd.move rfl rfl) ?_
  refine To.rd rfl rfl rfl (Rd.move rfl rfl) ?_
  refine To.rd rfl rfl rfl (Rd.len rfl rfl Try.underlying23) ?_
  refine To.rd rfl rfl rfl (Rd.eql rfl rfl rfl) ?_
  refine To.rd rfl rfl rfl (Rd.pickT rfl rfl rfl) ?_
  refine To.rd rfl rfl rfl (Rd.move rfl rfl) ?_
  refine To.rd rfl rfl rfl (Rd.move rfl rfl) ?_
  refine To.rd rfl rfl rfl (Rd.indexRows (i := 0) (j := 0) rfl rfl rfl s23 rfl (show [ms1][0]? = some ms1 from rfl)) ?_
  refine To.rd rfl rfl rfl (Rd.loadS (i := 0) rfl rfl r33 rfl (rows_gives encM (show [ms1][0]? = some ms1 from rfl)) (encM.len _)) ?_
  refine To.rd rfl rfl rfl (Rd.build (vs := [(1, .int .i64 1)]) (cells := [.int .i64 0, .int .i64 1, .int .i64 0]) rfl rfl rfl (by kernel_rfl)) ?_
  refine To.rd rfl rfl rfl (Rd.as (v' := .bool (true)) (congrArg Value.bool (decide_eq_true rfl)) (Rd.eqlF (ks := [.i64, .i64, .i64]) (xs := [0, 1, 0]) (ys := [0, 1, 0]) flatM rfl rfl rfl rfl rfl)) ?_
  refine To.rd rfl rfl rfl (Rd.pickT rfl rfl rfl) ?_
  refine To.rd rfl rfl rfl (Rd.assign rfl rfl) ?_
  refine To.nil ?_
  refine To.sub [(1, .slice (some ⟨b12, 0, none⟩) exA.length 1), (2, .slice A18 exB.length q18), (3, .int .i64 7), (4, .int .i64 1), (5, .bool false), (6, .pointer (some ⟨b6, 0, none⟩)), (7, .int .i64 0), (9, .int .i64 4), (10, .slice Am ([ms1].length) qm), (0, .bool true)] ⟨rfl, rfl, rfl, rfl, rfl, rfl, rfl, rfl, rfl, rfl, trivial⟩ ?_
  refine To.thenN ?_
  refine To.ret ?_
  refine To.end1 (.inl rfl) Try.results4 rfl ?_
  rfl
end Go.Proofs.Ytnghonabedcacaa

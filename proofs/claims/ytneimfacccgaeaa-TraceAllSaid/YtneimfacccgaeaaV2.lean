/- What one or two events tell: the small functions of trace and of the reference. Own text (walks printed by sx.py). -/
import Derived.Test.YtneimfacccgaeaaV1
import Derived.Test.YtneimfacccgaeaaL3
namespace Go.Proofs.Ytneimfacccgaeaa
open Go.RowKit Go.Flow Go.Mem Go.Sep
def Ev.fields (e : Ev) : List Int := [e.t, e.c, e.k, e.p, e.n, e.cp, e.h, e.d]
def Ev.val (e : Ev) : List Int := e.t :: e.c :: e.k :: e.p :: e.n :: e.cp :: e.h :: e.d :: e.args
theorem cmp_val (x y : Ev) : x.cmp y = cmpL x.val y.val := by
  have : ∀ z : Int, (if z = 0 then 0 else z) = z := fun z => by split <;> omega
  simp only [Ev.cmp, Ev.cmps, orL, Ev.val, cmpL, this]
def Ev.rl (e : Ev) : Int := if e.k = 8 then 1 else if e.k = 5 ∨ (e.k = 7 ∧ e.d = 5) then 2 else 0
def Ev.key (e : Ev) : Int × Int × Int := if e.k = 8 then (e.c, e.p, e.n) else if e.k = 5 ∨ (e.k = 7 ∧ e.d = 5) then (e.p, e.c, e.n) else (0, 0, 0)
def Ev.ind (x y : Ev) : Bool := decide (x.c ≠ y.c ∧ (x.rl = 0 ∨ y.rl = 0 ∨ x.rl = y.rl ∨ x.key ≠ y.key))
def Ev.arr (a s : Ev) : Bool := decide (s.k = 8 ∧ (a.k = 5 ∨ (a.k = 7 ∧ a.d = 5)) ∧ a.c = s.p ∧ a.p = s.c ∧ a.n = s.n)
def Ev.dep (x y : Ev) : Bool := decide (x.c = y.c) || x.arr y || y.arr x
theorem three55 : Three Try.prog 55 := ⟨⟨3, _, _, _, Try.underlying55, Try.underlying3, ⟨by decide, rfl, rfl⟩, ⟨by decide, rfl, rfl⟩, ⟨by decide, rfl, rfl⟩⟩, by kernel_rfl, by kernel_rfl⟩
set_option maxHeartbeats 2000000 in
set_option maxRecDepth 100000 in
theorem equal_fn (x y : Ev) (hl : x.args.length ≤ 1000000000000) :
    Does Try.prog 19 [.agg (Ev.cells x).toArray, .agg (Ev.cells y).toArray] [ros encI x.A x.args, ros encI y.A y.args] (fun v _ => v = .bool (decide (x.cmp y = 0))) := by
  refine Does.enter Try.func19 rfl Try.ntmps19 rfl (fun w0 => ?_)
  refine To.seq ?_
  refine To.reg ?_
  refine To.boxed rfl rfl rfl rfl rfl rfl (fun b2 => ?_)
  refine To.boxed rfl rfl rfl rfl rfl rfl (fun b3 => ?_)
  refine To.rd rfl rfl rfl (Rd.assign rfl rfl) ?_
  refine To.nil ?_
  refine To.thenN ?_
  refine To.seq ?_
  refine To.reg ?_
  refine To.rd rfl rfl rfl (Rd.loadS (i := 1) rfl rfl r37 rfl box_whole rfl) ?_
  refine To.rd rfl rfl rfl (Rd.loadS (i := 0) rfl rfl r37 rfl box_whole rfl) ?_
  refine To.callV rfl rfl rfl (Ent.fn rfl rfl ca36) (compare_fn x y hl) rfl (oks_cons (oks_at 2 rfl) (oks_cons (oks_at 3 rfl) (oks_nil _))) ?_
  refine To.rd rfl rfl rfl (Rd.eql rfl rfl rfl) ?_
  refine To.rd rfl rfl rfl (Rd.assign rfl rfl) ?_
  refine To.nil ?_
  refine To.thenN ?_
  refine To.ret ?_
  refine To.end1 (.inl rfl) Try.results19 rfl ?_
  rfl
set_option maxHeartbeats 2000000 in
set_option maxRecDepth 100000 in
theorem less_fn (x y : Ev) (hl : x.args.length ≤ 1000000000000) :
    Does Try.prog 20 [.agg (Ev.cells x).toArray, .agg (Ev.cells y).toArray] [ros encI x.A x.args, ros encI y.A y.args] (fun v _ => v = .bool (decide (x.cmp y < 0))) := by
  refine Does.enter Try.func20 rfl Try.ntmps20 rfl (fun w0 => ?_)
  refine To.seq ?_
  refine To.reg ?_
  refine To.boxed rfl rfl rfl rfl rfl rfl (fun b2 => ?_)
  refine To.boxed rfl rfl rfl rfl rfl rfl (fun b3 => ?_)
  refine To.rd rfl rfl rfl (Rd.assign rfl rfl) ?_
  refine To.nil ?_
  refine To.thenN ?_
  refine To.seq ?_
  refine To.reg ?_
  refine To.rd rfl rfl rfl (Rd.loadS (i := 1) rfl rfl r37 rfl box_whole rfl) ?_
  refine To.rd rfl rfl rfl (Rd.loadS (i := 0) rfl rfl r37 rfl box_whole rfl) ?_
  refine To.callV rfl rfl rfl (Ent.fn rfl rfl ca36) (compare_fn x y hl) rfl (oks_cons (oks_at 2 rfl) (oks_cons (oks_at 3 rfl) (oks_nil _))) ?_
  refine To.rd rfl rfl rfl (Rd.lss rfl rfl rfl) ?_
  refine To.rd rfl rfl rfl (Rd.assign rfl rfl) ?_
  refine To.nil ?_
  refine To.thenN ?_
  refine To.ret ?_
  refine To.end1 (.inl rfl) Try.results20 rfl ?_
  rfl
set_option maxHeartbeats 2000000 in
set_option maxRecDepth 100000 in
theorem message_fn (x : Ev) :
    Does Try.prog 33 [.agg (Ev.cells x).toArray] [] (fun v _ => v = .tuple #[mk3 x.key, .int .i64 x.rl]) := by
  refine Does.enter Try.func33 rfl Try.ntmps33 rfl (fun w0 => ?_)
  refine To.seq ?_
  refine To.reg ?_
  refine To.boxed rfl rfl rfl rfl rfl rfl (fun b1 => ?_)
  refine To.alloc rfl rfl rfl rfl z55 (fun b2 => ?_)
  refine To.rd rfl rfl rfl (Rd.assign rfl rfl) ?_
  refine To.nil ?_
  refine To.thenN ?_
  refine To.seq ?_
  refine To.block ?_
  refine To.seq ?_
  refine To.reg ?_
  refine To.rd rfl rfl rfl (Rd.field rfl rfl fl37_2) ?_
  refine To.rd rfl rfl rfl (Rd.load (i := 1) rfl rfl c34 rfl (box_gives1 rfl)) ?_
  refine To.rd rfl rfl rfl (Rd.eql rfl rfl rfl) ?_
  refine To.rd rfl rfl rfl (Rd.assign rfl rfl) ?_
  refine To.nil ?_
  refine To.thenN ?_
  refine To.condP rfl (fun c4 => ?_) (fun c4 => ?_)
  ·
    refine To.seq ?_
    refine To.reg ?_
    refine To.rd rfl rfl rfl (Rd.field rfl rfl fl37_1) ?_
    refine To.rd rfl rfl rfl (Rd.load (i := 1) rfl rfl c3 rfl (box_gives1 rfl)) ?_
    refine To.rd rfl rfl rfl (Rd.field rfl rfl fl37_3) ?_
    refine To.rd rfl rfl rfl (Rd.load (i := 1) rfl rfl c3 rfl (box_gives1 rfl)) ?_
    refine To.rd rfl rfl rfl (Rd.field rfl rfl fl37_4) ?_
    refine To.rd rfl rfl rfl (Rd.load (i := 1) rfl rfl c3 rfl (box_gives1 rfl)) ?_
    refine To.rd rfl rfl rfl (Rd.build (vs := [(0, .int .i64 x.c), (1, .int .i64 x.p), (2, .int .i64 x.n)]) (cells := [.int .i64 x.c, .int .i64 x.p, .int .i64 x.n]) rfl rfl rfl (by kernel_rfl)) ?_
    refine To.up rfl rfl (Up.storeS (i := 0) rfl rfl rfl r55 rfl rfl rfl (box_takesAll rfl)) ?_
    refine To.rd rfl rfl rfl (Rd.assign rfl rfl) ?_
    refine To.nil ?_
    refine To.thenN ?_
    refine To.ret ?_
    refine To.blockR ?_
    refine To.thenR ?_
    refine To.endCT [] rfl (.inl rfl) Try.results33 rfl (i := 0) rfl r55 rfl rfl ?_
    first | contradiction | simp [Ev.key, Ev.rl, mk3, c4]
  ·
    refine To.seq ?_
    refine To.seq ?_
    refine To.reg ?_
    refine To.rd rfl rfl rfl (Rd.field rfl rfl fl37_2) ?_
    refine To.rd rfl rfl rfl (Rd.load (i := 1) rfl rfl c34 rfl (box_gives1 rfl)) ?_
    refine To.rd rfl rfl rfl (Rd.eql rfl rfl rfl) ?_
    refine To.rd rfl rfl rfl (Rd.assign rfl rfl) ?_
    refine To.nil ?_
    refine To.thenN ?_
    refine To.condP rfl (fun c15 => ?_) (fun c15 => ?_)
    ·
      refine To.skip ?_
      refine To.thenN ?_
      refine To.condP rfl (fun c15 => ?_) (fun c15 => ?_)
      ·
        refine To.seq ?_
        refine To.reg ?_
        refine To.rd rfl rfl rfl (Rd.field rfl rfl fl37_3) ?_
        refine To.rd rfl rfl rfl (Rd.load (i := 1) rfl rfl c3 rfl (box_gives1 rfl)) ?_
        refine To.rd rfl rfl rfl (Rd.field rfl rfl fl37_1) ?_
        refine To.rd rfl rfl rfl (Rd.load (i := 1) rfl rfl c3 rfl (box_gives1 rfl)) ?_
        refine To.rd rfl rfl rfl (Rd.field rfl rfl fl37_4) ?_
        refine To.rd rfl rfl rfl (Rd.load (i := 1) rfl rfl c3 rfl (box_gives1 rfl)) ?_
        refine To.rd rfl rfl rfl (Rd.build (vs := [(0, .int .i64 x.p), (1, .int .i64 x.c), (2, .int .i64 x.n)]) (cells := [.int .i64 x.p, .int .i64 x.c, .int .i64 x.n]) rfl rfl rfl (by kernel_rfl)) ?_
        refine To.up rfl rfl (Up.storeS (i := 0) rfl rfl rfl r55 rfl rfl rfl (box_takesAll rfl)) ?_
        refine To.rd rfl rfl rfl (Rd.assign rfl rfl) ?_
        refine To.nil ?_
        refine To.sub [(0, .agg (Ev.cells x).toArray), (1, .pointer (some ⟨b1, 0, none⟩)), (2, .pointer (some ⟨b2, 0, none⟩)), (3, .int .i64 2), (4, .bool (decide (x.k = 8))), (15, .bool (decide (x.k = 5)))] ⟨rfl, rfl, rfl, rfl, rfl, rfl, trivial⟩ ?_
        refine To.thenN ?_
        refine To.ret ?_
        refine To.blockR ?_
        refine To.thenR ?_
        refine To.endCT [] rfl (.inl rfl) Try.results33 rfl (i := 0) rfl r55 rfl rfl ?_
        first | contradiction | simp [Ev.key, Ev.rl, mk3, c4, c15]
      ·
        refine To.skip ?_
        refine To.blockN ?_
        refine To.thenN ?_
        refine To.seq ?_
        refine To.reg ?_
        refine To.rd rfl rfl rfl (Rd.build (vs := []) (cells := [.int .i64 0, .int .i64 0, .int .i64 0]) rfl rfl rfl (by kernel_rfl)) ?_
        refine To.up rfl rfl (Up.storeS (i := 0) rfl rfl rfl r55 rfl rfl rfl (box_takesAll rfl)) ?_
        refine To.rd rfl rfl rfl (Rd.assign rfl rfl) ?_
        refine To.nil ?_
        refine To.thenN ?_
        refine To.ret ?_
        refine To.endCT [] rfl (.inl rfl) Try.results33 rfl (i := 0) rfl r55 rfl rfl ?_
        first | contradiction | simp [Ev.key, Ev.rl, mk3, c4, c15]
    ·
      refine To.reg ?_
      refine To.rd rfl rfl rfl (Rd.field rfl rfl fl37_2) ?_
      refine To.rd rfl rfl rfl (Rd.load (i := 1) rfl rfl c34 rfl (box_gives1 rfl)) ?_
      refine To.rd rfl rfl rfl (Rd.eql rfl rfl rfl) ?_
      refine To.rdP rfl rfl rfl (Rd.move rfl rfl) (fun g22 => ?_) (fun g22 => ?_)
      ·
        refine To.rd rfl rfl rfl (Rd.field rfl rfl fl37_7) ?_
        refine To.rd rfl rfl rfl (Rd.load (i := 1) rfl rfl c2 rfl (box_gives1 rfl)) ?_
        refine To.rd rfl rfl rfl (Rd.eql rfl rfl rfl) ?_
        refine To.rd rfl rfl rfl (Rd.pickT rfl rfl rfl) ?_
        refine To.rd rfl rfl rfl (Rd.assign rfl rfl) ?_
        refine To.nil ?_
        refine To.sub [(0, .agg (Ev.cells x).toArray), (1, .pointer (some ⟨b1, 0, none⟩)), (2, .pointer (some ⟨b2, 0, none⟩)), (3, .int .i64 0), (4, .bool (decide (x.k = 8))), (15, .bool (decide (x.d = 5)))] ⟨rfl, rfl, rfl, rfl, rfl, rfl, trivial⟩ ?_
        refine To.thenN ?_
        refine To.condP rfl (fun c15 => ?_) (fun c15 => ?_)
        ·
          refine To.seq ?_
          refine To.reg ?_
          refine To.rd rfl rfl rfl (Rd.field rfl rfl fl37_3) ?_
          refine To.rd rfl rfl rfl (Rd.load (i := 1) rfl rfl c3 rfl (box_gives1 rfl)) ?_
          refine To.rd rfl rfl rfl (Rd.field rfl rfl fl37_1) ?_
          refine To.rd rfl rfl rfl (Rd.load (i := 1) rfl rfl c3 rfl (box_gives1 rfl)) ?_
          refine To.rd rfl rfl rfl (Rd.field rfl rfl fl37_4) ?_
          refine To.rd rfl rfl rfl (Rd.load (i := 1) rfl rfl c3 rfl (box_gives1 rfl)) ?_
          refine To.rd rfl rfl rfl (Rd.build (vs := [(0, .int .i64 x.p), (1, .int .i64 x.c), (2, .int .i64 x.n)]) (cells := [.int .i64 x.p, .int .i64 x.c, .int .i64 x.n]) rfl rfl rfl (by kernel_rfl)) ?_
          refine To.up rfl rfl (Up.storeS (i := 0) rfl rfl rfl r55 rfl rfl rfl (box_takesAll rfl)) ?_
          refine To.rd rfl rfl rfl (Rd.assign rfl rfl) ?_
          refine To.nil ?_
          refine To.thenN ?_
          refine To.ret ?_
          refine To.blockR ?_
          refine To.thenR ?_
          refine To.endCT [] rfl (.inl rfl) Try.results33 rfl (i := 0) rfl r55 rfl rfl ?_
          first | contradiction | simp [Ev.key, Ev.rl, mk3, c4, c15, g22]
        ·
          refine To.skip ?_
          refine To.blockN ?_
          refine To.thenN ?_
          refine To.seq ?_
          refine To.reg ?_
          refine To.rd rfl rfl rfl (Rd.build (vs := []) (cells := [.int .i64 0, .int .i64 0, .int .i64 0]) rfl rfl rfl (by kernel_rfl)) ?_
          refine To.up rfl rfl (Up.storeS (i := 0) rfl rfl rfl r55 rfl rfl rfl (box_takesAll rfl)) ?_
          refine To.rd rfl rfl rfl (Rd.assign rfl rfl) ?_
          refine To.nil ?_
          refine To.thenN ?_
          refine To.ret ?_
          refine To.endCT [] rfl (.inl rfl) Try.results33 rfl (i := 0) rfl r55 rfl rfl ?_
          first | contradiction | simp [Ev.key, Ev.rl, mk3, c4, c15, g22]
      ·
        refine To.sk rfl rfl rfl ?_
        refine To.sk rfl rfl rfl ?_
        refine To.sk rfl rfl rfl ?_
        refine To.rd rfl rfl rfl (Rd.pickF rfl rfl rfl) ?_
        refine To.rd rfl rfl rfl (Rd.assign rfl rfl) ?_
        refine To.nil ?_
        refine To.sub [(0, .agg (Ev.cells x).toArray), (1, .pointer (some ⟨b1, 0, none⟩)), (2, .pointer (some ⟨b2, 0, none⟩)), (3, .int .i64 0), (4, .bool (decide (x.k = 8))), (15, .bool false)] ⟨rfl, rfl, rfl, rfl, rfl, rfl, trivial⟩ ?_
        refine To.thenN ?_
        refine To.condF rfl ?_
        refine To.skip ?_
        refine To.blockN ?_
        refine To.thenN ?_
        refine To.seq ?_
        refine To.reg ?_
        refine To.rd rfl rfl rfl (Rd.build (vs := []) (cells := [.int .i64 0, .int .i64 0, .int .i64 0]) rfl rfl rfl (by kernel_rfl)) ?_
        refine To.up rfl rfl (Up.storeS (i := 0) rfl rfl rfl r55 rfl rfl rfl (box_takesAll rfl)) ?_
        refine To.rd rfl rfl rfl (Rd.assign rfl rfl) ?_
        refine To.nil ?_
        refine To.thenN ?_
        refine To.ret ?_
        refine To.endCT [] rfl (.inl rfl) Try.results33 rfl (i := 0) rfl r55 rfl rfl ?_
        first | contradiction | simp [Ev.key, Ev.rl, mk3, c4, c15, g22]
set_option maxHeartbeats 2000000 in
set_option maxRecDepth 100000 in
theorem indep_fn (x y : Ev) :
    Does Try.prog 22 [.agg (Ev.cells x).toArray, .agg (Ev.cells y).toArray] [] (fun v _ => v = .bool (x.ind y)) := by
  refine Does.enter Try.func22 rfl Try.ntmps22 rfl (fun w0 => ?_)
  refine To.seq ?_
  refine To.reg ?_
  refine To.boxed rfl rfl rfl rfl rfl rfl (fun b2 => ?_)
  refine To.boxed rfl rfl rfl rfl rfl rfl (fun b3 => ?_)
  refine To.rd rfl rfl rfl (Rd.assign rfl rfl) ?_
  refine To.nil ?_
  refine To.thenN ?_
  refine To.seq ?_
  refine To.seq ?_
  refine To.reg ?_
  refine To.rd rfl rfl rfl (Rd.field rfl rfl fl37_1) ?_
  refine To.rd rfl rfl rfl (Rd.load (i := 1) rfl rfl c3 rfl (box_gives1 rfl)) ?_
  refine To.rd rfl rfl rfl (Rd.field rfl rfl fl37_1) ?_
  refine To.rd rfl rfl rfl (Rd.load (i := 0) rfl rfl c3 rfl (box_gives1 rfl)) ?_
  refine To.rd rfl rfl rfl (Rd.eql rfl rfl rfl) ?_
  refine To.nil ?_
  refine To.thenN ?_
  refine To.condP rfl (fun c13 => ?_) (fun c13 => ?_)
  ·
    refine To.seq ?_
    refine To.reg ?_
    refine To.rd rfl rfl rfl (Rd.assign rfl rfl) ?_
    refine To.nil ?_
    refine To.thenN ?_
    refine To.ret ?_
    refine To.thenR ?_
    refine To.end1 (.inl rfl) Try.results22 rfl ?_
    simp [Ev.ind, c13]
  ·
    refine To.skip ?_
    refine To.thenN ?_
    refine To.seq ?_
    refine To.reg ?_
    refine To.rd rfl rfl rfl (Rd.loadS (i := 1) rfl rfl r37 rfl box_whole rfl) ?_
    refine To.callV rfl rfl rfl (Ent.fn rfl rfl ca33) (message_fn x) rfl (oks_nil _) ?_
    refine To.rd rfl rfl rfl (Rd.move rfl rfl) ?_
    refine To.rd rfl rfl rfl (Rd.extract rfl rfl rfl) ?_
    refine To.rd rfl rfl rfl (Rd.extract rfl rfl rfl) ?_
    refine To.alloc rfl rfl rfl rfl z55 (fun b5 => ?_)
    refine To.up rfl rfl (Up.storeS (i := 0) rfl rfl rfl r55 rfl rfl rfl (box_takesAll rfl)) ?_
    refine To.rd rfl rfl rfl (Rd.assign rfl rfl) ?_
    refine To.nil ?_
    refine To.thenN ?_
    refine To.seq ?_
    refine To.reg ?_
    refine To.rd rfl rfl rfl (Rd.loadS (i := 1) rfl rfl r37 rfl box_whole rfl) ?_
    refine To.callV rfl rfl rfl (Ent.fn rfl rfl ca33) (message_fn y) rfl (oks_nil _) ?_
    refine To.rd rfl rfl rfl (Rd.move rfl rfl) ?_
    refine To.rd rfl rfl rfl (Rd.extract rfl rfl rfl) ?_
    refine To.rd rfl rfl rfl (Rd.extract rfl rfl rfl) ?_
    refine To.alloc rfl rfl rfl rfl z55 (fun b7 => ?_)
    refine To.up rfl rfl (Up.storeS (i := 0) rfl rfl rfl r55 rfl rfl rfl (box_takesAll rfl)) ?_
    refine To.rd rfl rfl rfl (Rd.assign rfl rfl) ?_
    refine To.nil ?_
    refine To.sub [(0, .agg (Ev.cells x).toArray), (1, .agg (Ev.cells y).toArray), (2, .pointer (some ⟨b2, 0, none⟩)), (3, .pointer (some ⟨b3, 0, none⟩)), (4, .bool false), (13, .bool (decide (x.c = y.c))), (5, .pointer (some ⟨b5, 0, none⟩)), (6, .int .i64 x.rl), (7, .pointer (some ⟨b7, 0, none⟩)), (8, .int .i64 y.rl)] ⟨rfl, rfl, rfl, rfl, rfl, rfl, rfl, rfl, rfl, rfl, trivial⟩ ?_
    refine To.thenN ?_
    refine To.seq ?_
    refine To.reg ?_
    refine To.rd rfl rfl rfl (Rd.move rfl rfl) ?_
    refine To.rd rfl rfl rfl (Rd.eql rfl rfl rfl) ?_
    refine To.rdP rfl rfl rfl (Rd.move rfl rfl) (fun g26 => ?_) (fun g26 => ?_)
    ·
      refine To.sk rfl rfl rfl ?_
      refine To.sk rfl rfl rfl ?_
      refine To.rd rfl rfl rfl (Rd.pickT rfl rfl rfl) ?_
      refine To.rd rfl rfl rfl (Rd.move rfl rfl) ?_
      refine To.sk rfl rfl rfl ?_
      refine To.sk rfl rfl rfl ?_
      refine To.sk rfl rfl rfl ?_
      refine To.rd rfl rfl rfl (Rd.pickT rfl rfl rfl) ?_
      refine To.rd rfl rfl rfl (Rd.move rfl rfl) ?_
      refine To.sk rfl rfl rfl ?_
      refine To.sk rfl rfl rfl ?_
      refine To.sk rfl rfl rfl ?_
      refine To.rd rfl rfl rfl (Rd.pickT rfl rfl rfl) ?_
      refine To.rd rfl rfl rfl (Rd.assign rfl rfl) ?_
      refine To.nil ?_
      refine To.sub [(0, .agg (Ev.cells x).toArray), (1, .agg (Ev.cells y).toArray), (2, .pointer (some ⟨b2, 0, none⟩)), (3, .pointer (some ⟨b3, 0, none⟩)), (4, .bool true), (13, .bool (decide (x.c = y.c))), (5, .pointer (some ⟨b5, 0, none⟩)), (6, .int .i64 x.rl), (7, .pointer (some ⟨b7, 0, none⟩)), (8, .int .i64 y.rl)] ⟨rfl, rfl, rfl, rfl, rfl, rfl, rfl, rfl, rfl, rfl, trivial⟩ ?_
      refine To.thenN ?_
      refine To.ret ?_
      refine To.end1 (.inl rfl) Try.results22 rfl ?_
      simp [Ev.ind, c13, g26]
    ·
      refine To.rd rfl rfl rfl (Rd.move rfl rfl) ?_
      refine To.rd rfl rfl rfl (Rd.eql rfl rfl rfl) ?_
      refine To.rd rfl rfl rfl (Rd.pickF rfl rfl rfl) ?_
      refine To.rdP rfl rfl rfl (Rd.move rfl rfl) (fun g30 => ?_) (fun g30 => ?_)
      ·
        refine To.sk rfl rfl rfl ?_
        refine To.sk rfl rfl rfl ?_
        refine To.sk rfl rfl rfl ?_
        refine To.rd rfl rfl rfl (Rd.pickT rfl rfl rfl) ?_
        refine To.rd rfl rfl rfl (Rd.move rfl rfl) ?_
        refine To.sk rfl rfl rfl ?_
        refine To.sk rfl rfl rfl ?_
        refine To.sk rfl rfl rfl ?_
        refine To.rd rfl rfl rfl (Rd.pickT rfl rfl rfl) ?_
        refine To.rd rfl rfl rfl (Rd.assign rfl rfl) ?_
        refine To.nil ?_
        refine To.sub [(0, .agg (Ev.cells x).toArray), (1, .agg (Ev.cells y).toArray), (2, .pointer (some ⟨b2, 0, none⟩)), (3, .pointer (some ⟨b3, 0, none⟩)), (4, .bool true), (13, .bool (decide (x.c = y.c))), (5, .pointer (some ⟨b5, 0, none⟩)), (6, .int .i64 x.rl), (7, .pointer (some ⟨b7, 0, none⟩)), (8, .int .i64 y.rl)] ⟨rfl, rfl, rfl, rfl, rfl, rfl, rfl, rfl, rfl, rfl, trivial⟩ ?_
        refine To.thenN ?_
        refine To.ret ?_
        refine To.end1 (.inl rfl) Try.results22 rfl ?_
        simp [Ev.ind, c13, g26, g30]
      ·
        refine To.rd rfl rfl rfl (Rd.move rfl rfl) ?_
        refine To.rd rfl rfl rfl (Rd.move rfl rfl) ?_
        refine To.rd rfl rfl rfl (Rd.eql rfl rfl rfl) ?_
        refine To.rd rfl rfl rfl (Rd.pickF rfl rfl rfl) ?_
        refine To.rdP rfl rfl rfl (Rd.move rfl rfl) (fun g35 => ?_) (fun g35 => ?_)
        ·
          refine To.sk rfl rfl rfl ?_
          refine To.sk rfl rfl rfl ?_
          refine To.sk rfl rfl rfl ?_
          refine To.rd rfl rfl rfl (Rd.pickT rfl rfl rfl) ?_
          refine To.rd rfl rfl rfl (Rd.assign rfl rfl) ?_
          refine To.nil ?_
          refine To.sub [(0, .agg (Ev.cells x).toArray), (1, .agg (Ev.cells y).toArray), (2, .pointer (some ⟨b2, 0, none⟩)), (3, .pointer (some ⟨b3, 0, none⟩)), (4, .bool true), (13, .bool (decide (x.c = y.c))), (5, .pointer (some ⟨b5, 0, none⟩)), (6, .int .i64 x.rl), (7, .pointer (some ⟨b7, 0, none⟩)), (8, .int .i64 y.rl)] ⟨rfl, rfl, rfl, rfl, rfl, rfl, rfl, rfl, rfl, rfl, trivial⟩ ?_
          refine To.thenN ?_
          refine To.ret ?_
          refine To.end1 (.inl rfl) Try.results22 rfl ?_
          simp [Ev.ind, c13, g26, g30, g35]
        ·
          refine To.rd rfl rfl rfl (Rd.loadS (i := 1) rfl rfl r55 rfl box_whole rfl) ?_
          refine To.rd rfl rfl rfl (Rd.loadS (i := 0) rfl rfl r55 rfl box_whole rfl) ?_
          refine To.rd rfl rfl rfl (Rd.neq3 (a := x.key) (b := y.key) three55 rfl rfl rfl) ?_
          refine To.rd rfl rfl rfl (Rd.pickF rfl rfl rfl) ?_
          refine To.rd rfl rfl rfl (Rd.assign rfl rfl) ?_
          refine To.nil ?_
          refine To.sub [(0, .agg (Ev.cells x).toArray), (1, .agg (Ev.cells y).toArray), (2, .pointer (some ⟨b2, 0, none⟩)), (3, .pointer (some ⟨b3, 0, none⟩)), (4, .bool (decide (x.key ≠ y.key))), (13, .bool (decide (x.c = y.c))), (5, .pointer (some ⟨b5, 0, none⟩)), (6, .int .i64 x.rl), (7, .pointer (some ⟨b7, 0, none⟩)), (8, .int .i64 y.rl)] ⟨rfl, rfl, rfl, rfl, rfl, rfl, rfl, rfl, rfl, rfl, trivial⟩ ?_
          refine To.thenN ?_
          refine To.ret ?_
          refine To.end1 (.inl rfl) Try.results22 rfl ?_
          simp [Ev.ind, c13, g26, g30, g35]
set_option maxHeartbeats 2000000 in
set_option maxRecDepth 100000 in
theorem clone_fn (x : Ev) (hl : x.args.length ≤ 1000000000000) :
    Does Try.prog 34 [.agg (Ev.cells x).toArray] [ros encI x.A x.args] (fun v Γ' => ∃ A cap, v = .agg ({ x with A := A, cap := cap } : Ev).cells.toArray ∧ Γ' = [rows encI 2 1 A cap x.args]) := by
  refine Does.enter Try.func34 rfl Try.ntmps34 rfl (fun w0 => ?_)
  refine To.seq ?_
  refine To.reg ?_
  refine To.boxed rfl rfl rfl rfl rfl rfl (fun b1 => ?_)
  refine To.alloc rfl rfl rfl rfl z37 (fun b2 => ?_)
  refine To.nil ?_
  refine To.thenN ?_
  refine To.seq ?_
  refine To.nilRow encI 2 1 ?_
  refine To.reg ?_
  refine To.rd rfl rfl rfl (Rd.field rfl rfl fl37_8) ?_
  refine To.rd rfl rfl rfl (Rd.load (i := 2) rfl rfl c35 rfl (box_gives1 rfl)) ?_
  refine To.ge rfl rfl rfl (Ge.appendL encI_ok (i := 0) (m := x.args) rfl s35 rfl rfl rfl (src_ro (i := 3) rfl) (by first | omega | (simp only [List.length_append, List.length_cons, List.length_nil]; omega)) (by first | omega | (simp only [List.length_append, List.length_cons, List.length_nil]; omega))) ?_
  rintro _ _ ⟨A5, q5, rfl, rfl⟩
  refine To.as [rows encI 2 1 A5 q5 (([] : List Int) ++ x.args), box b2 [.int .i64 0, .int .i64 0, .int .u8 0, .int .i64 0, .int .i64 0, .int .i64 0, .int .i64 0, .int .i64 0, .slice none 0 0] 37, box b1 [.int .i64 x.t, .int .i64 x.c, .int .u8 x.k, .int .i64 x.p, .int .i64 x.n, .int .i64 x.cp, .int .i64 x.h, .int .i64 x.d, .slice x.A x.args.length x.cap] 37, ros encI x.A x.args] rfl ?_
  refine To.rd rfl rfl rfl (Rd.field rfl rfl fl37_8) ?_
  refine To.up rfl rfl (Up.store (i := 2) rfl rfl rfl c35 rfl rfl (box_takes1 rfl)) ?_
  refine To.nil ?_
  refine To.thenN ?_
  refine To.seq ?_
  refine To.reg ?_
  refine To.rd rfl rfl rfl (Rd.loadS (i := 2) rfl rfl r37 rfl box_whole rfl) ?_
  refine To.up rfl rfl (Up.storeS (i := 1) rfl rfl rfl r37 rfl rfl rfl (box_takesAll rfl)) ?_
  refine To.nil ?_
  refine To.thenN ?_
  refine To.ret ?_
  refine To.endC [0] rfl (.inl rfl) Try.results34 rfl (i := 1) rfl r37 rfl ?_
  exact ⟨_, _, rfl, rfl⟩
set_option maxHeartbeats 2000000 in
set_option maxRecDepth 100000 in
theorem arrival_fn (x y : Ev) :
    Does Try.prog 40 [.agg (Ev.cells x).toArray, .agg (Ev.cells y).toArray] [] (fun v _ => v = .bool (x.arr y)) := by
  refine Does.enter Try.func40 rfl Try.ntmps40 rfl (fun w0 => ?_)
  refine To.seq ?_
  refine To.reg ?_
  refine To.boxed rfl rfl rfl rfl rfl rfl (fun b2 => ?_)
  refine To.boxed rfl rfl rfl rfl rfl rfl (fun b3 => ?_)
  refine To.rd rfl rfl rfl (Rd.assign rfl rfl) ?_
  refine To.nil ?_
  refine To.thenN ?_
  refine To.seq ?_
  refine To.reg ?_
  refine To.rd rfl rfl rfl (Rd.field rfl rfl fl37_2) ?_
  refine To.rd rfl rfl rfl (Rd.load (i := 0) rfl rfl c34 rfl (box_gives1 rfl)) ?_
  refine To.rd rfl rfl rfl (Rd.eql rfl rfl rfl) ?_
  refine To.rdP rfl rfl rfl (Rd.move rfl rfl) (fun g8 => ?_) (fun g8 => ?_)
  ·
    refine To.rd rfl rfl rfl (Rd.field rfl rfl fl37_2) ?_
    refine To.rd rfl rfl rfl (Rd.load (i := 1) rfl rfl c34 rfl (box_gives1 rfl)) ?_
    refine To.rd rfl rfl rfl (Rd.eql rfl rfl rfl) ?_
    refine To.rdP rfl rfl rfl (Rd.move rfl rfl) (fun g12 => ?_) (fun g12 => ?_)
    ·
      refine To.sk rfl rfl rfl ?_
      refine To.sk rfl rfl rfl ?_
      refine To.sk rfl rfl rfl ?_
      refine To.sk rfl rfl rfl ?_
      refine To.sk rfl rfl rfl ?_
      refine To.sk rfl rfl rfl ?_
      refine To.sk rfl rfl rfl ?_
      refine To.sk rfl rfl rfl ?_
      refine To.rd rfl rfl rfl (Rd.pickT rfl rfl rfl) ?_
      refine To.rd rfl rfl rfl (Rd.pickT rfl rfl rfl) ?_
      refine To.rd rfl rfl rfl (Rd.move rfl rfl) ?_
      refine To.rd rfl rfl rfl (Rd.field rfl rfl fl37_1) ?_
      refine To.rd rfl rfl rfl (Rd.load (i := 1) rfl rfl c3 rfl (box_gives1 rfl)) ?_
      refine To.rd rfl rfl rfl (Rd.field rfl rfl fl37_3) ?_
      refine To.rd rfl rfl rfl (Rd.load (i := 0) rfl rfl c3 rfl (box_gives1 rfl)) ?_
      refine To.rd rfl rfl rfl (Rd.eql rfl rfl rfl) ?_
      refine To.rd rfl rfl rfl (Rd.pickT rfl rfl rfl) ?_
      refine To.rdP rfl rfl rfl (Rd.move rfl rfl) (fun g30 => ?_) (fun g30 => ?_)
      ·
        refine To.rd rfl rfl rfl (Rd.field rfl rfl fl37_3) ?_
        refine To.rd rfl rfl rfl (Rd.load (i := 1) rfl rfl c3 rfl (box_gives1 rfl)) ?_
        refine To.rd rfl rfl rfl (Rd.field rfl rfl fl37_1) ?_
        refine To.rd rfl rfl rfl (Rd.load (i := 0) rfl rfl c3 rfl (box_gives1 rfl)) ?_
        refine To.rd rfl rfl rfl (Rd.eql rfl rfl rfl) ?_
        refine To.rd rfl rfl rfl (Rd.pickT rfl rfl rfl) ?_
        refine To.rdP rfl rfl rfl (Rd.move rfl rfl) (fun g37 => ?_) (fun g37 => ?_)
        ·
          refine To.rd rfl rfl rfl (Rd.field rfl rfl fl37_4) ?_
          refine To.rd rfl rfl rfl (Rd.load (i := 1) rfl rfl c3 rfl (box_gives1 rfl)) ?_
          refine To.rd rfl rfl rfl (Rd.field rfl rfl fl37_4) ?_
          refine To.rd rfl rfl rfl (Rd.load (i := 0) rfl rfl c3 rfl (box_gives1 rfl)) ?_
          refine To.rd rfl rfl rfl (Rd.eql rfl rfl rfl) ?_
          refine To.rd rfl rfl rfl (Rd.pickT rfl rfl rfl) ?_
          refine To.rd rfl rfl rfl (Rd.assign rfl rfl) ?_
          refine To.nil ?_
          refine To.sub [(0, .agg (Ev.cells x).toArray), (1, .agg (Ev.cells y).toArray), (2, .pointer (some ⟨b2, 0, none⟩)), (3, .pointer (some ⟨b3, 0, none⟩)), (4, .bool (decide (x.n = y.n)))] ⟨rfl, rfl, rfl, rfl, rfl, trivial⟩ ?_
          refine To.thenN ?_
          refine To.ret ?_
          refine To.end1 (.inl rfl) Try.results40 rfl ?_
          simp [Ev.arr, g8, g12, g30, g37]
        ·
          refine To.sk rfl rfl rfl ?_
          refine To.sk rfl rfl rfl ?_
          refine To.sk rfl rfl rfl ?_
          refine To.sk rfl rfl rfl ?_
          refine To.sk rfl rfl rfl ?_
          refine To.rd rfl rfl rfl (Rd.pickF rfl rfl rfl) ?_
          refine To.rd rfl rfl rfl (Rd.assign rfl rfl) ?_
          refine To.nil ?_
          refine To.sub [(0, .agg (Ev.cells x).toArray), (1, .agg (Ev.cells y).toArray), (2, .pointer (some ⟨b2, 0, none⟩)), (3, .pointer (some ⟨b3, 0, none⟩)), (4, .bool false)] ⟨rfl, rfl, rfl, rfl, rfl, trivial⟩ ?_
          refine To.thenN ?_
          refine To.ret ?_
          refine To.end1 (.inl rfl) Try.results40 rfl ?_
          simp [Ev.arr, g8, g12, g30, g37]
      ·
        refine To.sk rfl rfl rfl ?_
        refine To.sk rfl rfl rfl ?_
        refine To.sk rfl rfl rfl ?_
        refine To.sk rfl rfl rfl ?_
        refine To.sk rfl rfl rfl ?_
        refine To.rd rfl rfl rfl (Rd.pickF rfl rfl rfl) ?_
        refine To.rd rfl rfl rfl (Rd.move rfl rfl) ?_
        refine To.sk rfl rfl rfl ?_
        refine To.sk rfl rfl rfl ?_
        refine To.sk rfl rfl rfl ?_
        refine To.sk rfl rfl rfl ?_
        refine To.sk rfl rfl rfl ?_
        refine To.rd rfl rfl rfl (Rd.pickF rfl rfl rfl) ?_
        refine To.rd rfl rfl rfl (Rd.assign rfl rfl) ?_
        refine To.nil ?_
        refine To.sub [(0, .agg (Ev.cells x).toArray), (1, .agg (Ev.cells y).toArray), (2, .pointer (some ⟨b2, 0, none⟩)), (3, .pointer (some ⟨b3, 0, none⟩)), (4, .bool false)] ⟨rfl, rfl, rfl, rfl, rfl, trivial⟩ ?_
        refine To.thenN ?_
        refine To.ret ?_
        refine To.end1 (.inl rfl) Try.results40 rfl ?_
        simp [Ev.arr, g8, g12, g30]
    ·
      refine To.rd rfl rfl rfl (Rd.field rfl rfl fl37_2) ?_
      refine To.rd rfl rfl rfl (Rd.load (i := 1) rfl rfl c34 rfl (box_gives1 rfl)) ?_
      refine To.rd rfl rfl rfl (Rd.eql rfl rfl rfl) ?_
      refine To.rdP rfl rfl rfl (Rd.move rfl rfl) (fun g16 => ?_) (fun g16 => ?_)
      ·
        refine To.rd rfl rfl rfl (Rd.field rfl rfl fl37_7) ?_
        refine To.rd rfl rfl rfl (Rd.load (i := 1) rfl rfl c2 rfl (box_gives1 rfl)) ?_
        refine To.rd rfl rfl rfl (Rd.eql rfl rfl rfl) ?_
        refine To.rd rfl rfl rfl (Rd.pickT rfl rfl rfl) ?_
        refine To.rd rfl rfl rfl (Rd.pickF rfl rfl rfl) ?_
        refine To.rd rfl rfl rfl (Rd.pickT rfl rfl rfl) ?_
        refine To.rdP rfl rfl rfl (Rd.move rfl rfl) (fun g23 => ?_) (fun g23 => ?_)
        ·
          refine To.rd rfl rfl rfl (Rd.field rfl rfl fl37_1) ?_
          refine To.rd rfl rfl rfl (Rd.load (i := 1) rfl rfl c3 rfl (box_gives1 rfl)) ?_
          refine To.rd rfl rfl rfl (Rd.field rfl rfl fl37_3) ?_
          refine To.rd rfl rfl rfl (Rd.load (i := 0) rfl rfl c3 rfl (box_gives1 rfl)) ?_
          refine To.rd rfl rfl rfl (Rd.eql rfl rfl rfl) ?_
          refine To.rd rfl rfl rfl (Rd.pickT rfl rfl rfl) ?_
          refine To.rdP rfl rfl rfl (Rd.move rfl rfl) (fun g30 => ?_) (fun g30 => ?_)
          ·
            refine To.rd rfl rfl rfl (Rd.field rfl rfl fl37_3) ?_
            refine To.rd rfl rfl rfl (Rd.load (i := 1) rfl rfl c3 rfl (box_gives1 rfl)) ?_
            refine To.rd rfl rfl rfl (Rd.field rfl rfl fl37_1) ?_
            refine To.rd rfl rfl rfl (Rd.load (i := 0) rfl rfl c3 rfl (box_gives1 rfl)) ?_
            refine To.rd rfl rfl rfl (Rd.eql rfl rfl rfl) ?_
            refine To.rd rfl rfl rfl (Rd.pickT rfl rfl rfl) ?_
            refine To.rdP rfl rfl rfl (Rd.move rfl rfl) (fun g37 => ?_) (fun g37 => ?_)
            ·
              refine To.rd rfl rfl rfl (Rd.field rfl rfl fl37_4) ?_
              refine To.rd rfl rfl rfl (Rd.load (i := 1) rfl rfl c3 rfl (box_gives1 rfl)) ?_
              refine To.rd rfl rfl rfl (Rd.field rfl rfl fl37_4) ?_
              refine To.rd rfl rfl rfl (Rd.load (i := 0) rfl rfl c3 rfl (box_gives1 rfl)) ?_
              refine To.rd rfl rfl rfl (Rd.eql rfl rfl rfl) ?_
              refine To.rd rfl rfl rfl (Rd.pickT rfl rfl rfl) ?_
              refine To.rd rfl rfl rfl (Rd.assign rfl rfl) ?_
              refine To.nil ?_
              refine To.sub [(0, .agg (Ev.cells x).toArray), (1, .agg (Ev.cells y).toArray), (2, .pointer (some ⟨b2, 0, none⟩)), (3, .pointer (some ⟨b3, 0, none⟩)), (4, .bool (decide (x.n = y.n)))] ⟨rfl, rfl, rfl, rfl, rfl, trivial⟩ ?_
              refine To.thenN ?_
              refine To.ret ?_
              refine To.end1 (.inl rfl) Try.results40 rfl ?_
              simp [Ev.arr, g8, g12, g16, g23, g30, g37]
            ·
              refine To.sk rfl rfl rfl ?_
              refine To.sk rfl rfl rfl ?_
              refine To.sk rfl rfl rfl ?_
              refine To.sk rfl rfl rfl ?_
              refine To.sk rfl rfl rfl ?_
              refine To.rd rfl rfl rfl (Rd.pickF rfl rfl rfl) ?_
              refine To.rd rfl rfl rfl (Rd.assign rfl rfl) ?_
              refine To.nil ?_
              refine To.sub [(0, .agg (Ev.cells x).toArray), (1, .agg (Ev.cells y).toArray), (2, .pointer (some ⟨b2, 0, none⟩)), (3, .pointer (some ⟨b3, 0, none⟩)), (4, .bool false)] ⟨rfl, rfl, rfl, rfl, rfl, trivial⟩ ?_
              refine To.thenN ?_
              refine To.ret ?_
              refine To.end1 (.inl rfl) Try.results40 rfl ?_
              simp [Ev.arr, g8, g12, g16, g23, g30, g37]
          ·
            refine To.sk rfl rfl rfl ?_
            refine To.sk rfl rfl rfl ?_
            refine To.sk rfl rfl rfl ?_
            refine To.sk rfl rfl rfl ?_
            refine To.sk rfl rfl rfl ?_
            refine To.rd rfl rfl rfl (Rd.pickF rfl rfl rfl) ?_
            refine To.rd rfl rfl rfl (Rd.move rfl rfl) ?_
            refine To.sk rfl rfl rfl ?_
            refine To.sk rfl rfl rfl ?_
            refine To.sk rfl rfl rfl ?_
            refine To.sk rfl rfl rfl ?_
            refine To.sk rfl rfl rfl ?_
            refine To.rd rfl rfl rfl (Rd.pickF rfl rfl rfl) ?_
            refine To.rd rfl rfl rfl (Rd.assign rfl rfl) ?_
            refine To.nil ?_
            refine To.sub [(0, .agg (Ev.cells x).toArray), (1, .agg (Ev.cells y).toArray), (2, .pointer (some ⟨b2, 0, none⟩)), (3, .pointer (some ⟨b3, 0, none⟩)), (4, .bool false)] ⟨rfl, rfl, rfl, rfl, rfl, trivial⟩ ?_
            refine To.thenN ?_
            refine To.ret ?_
            refine To.end1 (.inl rfl) Try.results40 rfl ?_
            simp [Ev.arr, g8, g12, g16, g23, g30]
        ·
          refine To.sk rfl rfl rfl ?_
          refine To.sk rfl rfl rfl ?_
          refine To.sk rfl rfl rfl ?_
          refine To.sk rfl rfl rfl ?_
          refine To.sk rfl rfl rfl ?_
          refine To.rd rfl rfl rfl (Rd.pickF rfl rfl rfl) ?_
          refine To.rd rfl rfl rfl (Rd.move rfl rfl) ?_
          refine To.sk rfl rfl rfl ?_
          refine To.sk rfl rfl rfl ?_
          refine To.sk rfl rfl rfl ?_
          refine To.sk rfl rfl rfl ?_
          refine To.sk rfl rfl rfl ?_
          refine To.rd rfl rfl rfl (Rd.pickF rfl rfl rfl) ?_
          refine To.rd rfl rfl rfl (Rd.move rfl rfl) ?_
          refine To.sk rfl rfl rfl ?_
          refine To.sk rfl rfl rfl ?_
          refine To.sk rfl rfl rfl ?_
          refine To.sk rfl rfl rfl ?_
          refine To.sk rfl rfl rfl ?_
          refine To.rd rfl rfl rfl (Rd.pickF rfl rfl rfl) ?_
          refine To.rd rfl rfl rfl (Rd.assign rfl rfl) ?_
          refine To.nil ?_
          refine To.sub [(0, .agg (Ev.cells x).toArray), (1, .agg (Ev.cells y).toArray), (2, .pointer (some ⟨b2, 0, none⟩)), (3, .pointer (some ⟨b3, 0, none⟩)), (4, .bool false)] ⟨rfl, rfl, rfl, rfl, rfl, trivial⟩ ?_
          refine To.thenN ?_
          refine To.ret ?_
          refine To.end1 (.inl rfl) Try.results40 rfl ?_
          simp [Ev.arr, g8, g12, g16, g23]
      ·
        refine To.sk rfl rfl rfl ?_
        refine To.sk rfl rfl rfl ?_
        refine To.sk rfl rfl rfl ?_
        refine To.rd rfl rfl rfl (Rd.pickF rfl rfl rfl) ?_
        refine To.rd rfl rfl rfl (Rd.pickF rfl rfl rfl) ?_
        refine To.rd rfl rfl rfl (Rd.pickT rfl rfl rfl) ?_
        refine To.rd rfl rfl rfl (Rd.move rfl rfl) ?_
        refine To.sk rfl rfl rfl ?_
        refine To.sk rfl rfl rfl ?_
        refine To.sk rfl rfl rfl ?_
        refine To.sk rfl rfl rfl ?_
        refine To.sk rfl rfl rfl ?_
        refine To.rd rfl rfl rfl (Rd.pickF rfl rfl rfl) ?_
        refine To.rd rfl rfl rfl (Rd.move rfl rfl) ?_
        refine To.sk rfl rfl rfl ?_
        refine To.sk rfl rfl rfl ?_
        refine To.sk rfl rfl rfl ?_
        refine To.sk rfl rfl rfl ?_
        refine To.sk rfl rfl rfl ?_
        refine To.rd rfl rfl rfl (Rd.pickF rfl rfl rfl) ?_
        refine To.rd rfl rfl rfl (Rd.move rfl rfl) ?_
        refine To.sk rfl rfl rfl ?_
        refine To.sk rfl rfl rfl ?_
        refine To.sk rfl rfl rfl ?_
        refine To.sk rfl rfl rfl ?_
        refine To.sk rfl rfl rfl ?_
        refine To.rd rfl rfl rfl (Rd.pickF rfl rfl rfl) ?_
        refine To.rd rfl rfl rfl (Rd.assign rfl rfl) ?_
        refine To.nil ?_
        refine To.sub [(0, .agg (Ev.cells x).toArray), (1, .agg (Ev.cells y).toArray), (2, .pointer (some ⟨b2, 0, none⟩)), (3, .pointer (some ⟨b3, 0, none⟩)), (4, .bool false)] ⟨rfl, rfl, rfl, rfl, rfl, trivial⟩ ?_
        refine To.thenN ?_
        refine To.ret ?_
        refine To.end1 (.inl rfl) Try.results40 rfl ?_
        simp [Ev.arr, g8, g12, g16]
  ·
    refine To.sk rfl rfl rfl ?_
    refine To.sk rfl rfl rfl ?_
    refine To.sk rfl rfl rfl ?_
    refine To.sk rfl rfl rfl ?_
    refine To.sk rfl rfl rfl ?_
    refine To.sk rfl rfl rfl ?_
    refine To.sk rfl rfl rfl ?_
    refine To.sk rfl rfl rfl ?_
    refine To.sk rfl rfl rfl ?_
    refine To.sk rfl rfl rfl ?_
    refine To.sk rfl rfl rfl ?_
    refine To.sk rfl rfl rfl ?_
    refine To.sk rfl rfl rfl ?_
    refine To.rd rfl rfl rfl (Rd.pickF rfl rfl rfl) ?_
    refine To.rd rfl rfl rfl (Rd.move rfl rfl) ?_
    refine To.sk rfl rfl rfl ?_
    refine To.sk rfl rfl rfl ?_
    refine To.sk rfl rfl rfl ?_
    refine To.sk rfl rfl rfl ?_
    refine To.sk rfl rfl rfl ?_
    refine To.rd rfl rfl rfl (Rd.pickF rfl rfl rfl) ?_
    refine To.rd rfl rfl rfl (Rd.move rfl rfl) ?_
    refine To.sk rfl rfl rfl ?_
    refine To.sk rfl rfl rfl ?_
    refine To.sk rfl rfl rfl ?_
    refine To.sk rfl rfl rfl ?_
    refine To.sk rfl rfl rfl ?_
    refine To.rd rfl rfl rfl (Rd.pickF rfl rfl rfl) ?_
    refine To.rd rfl rfl rfl (Rd.move rfl rfl) ?_
    refine To.sk rfl rfl rfl ?_
    refine To.sk rfl rfl rfl ?_
    refine To.sk rfl rfl rfl ?_
    refine To.sk rfl rfl rfl ?_
    refine To.sk rfl rfl rfl ?_
    refine To.rd rfl rfl rfl (Rd.pickF rfl rfl rfl) ?_
    refine To.rd rfl rfl rfl (Rd.assign rfl rfl) ?_
    refine To.nil ?_
    refine To.sub [(0, .agg (Ev.cells x).toArray), (1, .agg (Ev.cells y).toArray), (2, .pointer (some ⟨b2, 0, none⟩)), (3, .pointer (some ⟨b3, 0, none⟩)), (4, .bool false)] ⟨rfl, rfl, rfl, rfl, rfl, trivial⟩ ?_
    refine To.thenN ?_
    refine To.ret ?_
    refine To.end1 (.inl rfl) Try.results40 rfl ?_
    simp [Ev.arr, g8]
set_option maxHeartbeats 2000000 in
set_option maxRecDepth 100000 in
theorem dependent_fn (x y : Ev) :
    Does Try.prog 23 [.agg (Ev.cells x).toArray, .agg (Ev.cells y).toArray] [] (fun v _ => v = .bool (x.dep y)) := by
  refine Does.enter Try.func23 rfl Try.ntmps23 rfl (fun w0 => ?_)
  refine To.seq ?_
  refine To.reg ?_
  refine To.boxed rfl rfl rfl rfl rfl rfl (fun b2 => ?_)
  refine To.boxed rfl rfl rfl rfl rfl rfl (fun b3 => ?_)
  refine To.rd rfl rfl rfl (Rd.assign rfl rfl) ?_
  refine To.nil ?_
  refine To.thenN ?_
  refine To.seq ?_
  refine To.reg ?_
  refine To.rd rfl rfl rfl (Rd.field rfl rfl fl37_1) ?_
  refine To.rd rfl rfl rfl (Rd.load (i := 1) rfl rfl c3 rfl (box_gives1 rfl)) ?_
  refine To.rd rfl rfl rfl (Rd.field rfl rfl fl37_1) ?_
  refine To.rd rfl rfl rfl (Rd.load (i := 0) rfl rfl c3 rfl (box_gives1 rfl)) ?_
  refine To.rd rfl rfl rfl (Rd.eql rfl rfl rfl) ?_
  refine To.rdP rfl rfl rfl (Rd.move rfl rfl) (fun g10 => ?_) (fun g10 => ?_)
  ·
    refine To.sk rfl rfl rfl ?_
    refine To.sk rfl rfl rfl ?_
    refine To.sk rfl rfl rfl ?_
    refine To.rd rfl rfl rfl (Rd.pickT rfl rfl rfl) ?_
    refine To.rd rfl rfl rfl (Rd.move rfl rfl) ?_
    refine To.sk rfl rfl rfl ?_
    refine To.sk rfl rfl rfl ?_
    refine To.sk rfl rfl rfl ?_
    refine To.rd rfl rfl rfl (Rd.pickT rfl rfl rfl) ?_
    refine To.rd rfl rfl rfl (Rd.assign rfl rfl) ?_
    refine To.nil ?_
    refine To.sub [(0, .agg (Ev.cells x).toArray), (1, .agg (Ev.cells y).toArray), (2, .pointer (some ⟨b2, 0, none⟩)), (3, .pointer (some ⟨b3, 0, none⟩)), (4, .bool true)] ⟨rfl, rfl, rfl, rfl, rfl, trivial⟩ ?_
    refine To.thenN ?_
    refine To.ret ?_
    refine To.end1 (.inl rfl) Try.results23 rfl ?_
    simp [Ev.dep, g10]
  ·
    refine To.rd rfl rfl rfl (Rd.loadS (i := 1) rfl rfl r37 rfl box_whole rfl) ?_
    refine To.rd rfl rfl rfl (Rd.loadS (i := 0) rfl rfl r37 rfl box_whole rfl) ?_
    refine To.callV rfl rfl rfl (Ent.fn rfl rfl ca40) (arrival_fn x y) rfl (oks_nil _) ?_
    refine To.rd rfl rfl rfl (Rd.pickF rfl rfl rfl) ?_
    refine To.rdB rfl rfl rfl (Rd.move rfl rfl) (fun g15 => ?_) (fun g15 => ?_)
    ·
      refine To.sk rfl rfl rfl ?_
      refine To.sk rfl rfl rfl ?_
      refine To.sk rfl rfl rfl ?_
      refine To.rd rfl rfl rfl (Rd.pickT rfl rfl rfl) ?_
      refine To.rd rfl rfl rfl (Rd.assign rfl rfl) ?_
      refine To.nil ?_
      refine To.sub [(0, .agg (Ev.cells x).toArray), (1, .agg (Ev.cells y).toArray), (2, .pointer (some ⟨b2, 0, none⟩)), (3, .pointer (some ⟨b3, 0, none⟩)), (4, .bool true)] ⟨rfl, rfl, rfl, rfl, rfl, trivial⟩ ?_
      refine To.thenN ?_
      refine To.ret ?_
      refine To.end1 (.inl rfl) Try.results23 rfl ?_
      simp [Ev.dep, g10, g15]
    ·
      refine To.rd rfl rfl rfl (Rd.loadS (i := 0) rfl rfl r37 rfl box_whole rfl) ?_
      refine To.rd rfl rfl rfl (Rd.loadS (i := 1) rfl rfl r37 rfl box_whole rfl) ?_
      refine To.callV rfl rfl rfl (Ent.fn rfl rfl ca40) (arrival_fn y x) rfl (oks_nil _) ?_
      refine To.rd rfl rfl rfl (Rd.pickF rfl rfl rfl) ?_
      refine To.rd rfl rfl rfl (Rd.assign rfl rfl) ?_
      refine To.nil ?_
      refine To.sub [(0, .agg (Ev.cells x).toArray), (1, .agg (Ev.cells y).toArray), (2, .pointer (some ⟨b2, 0, none⟩)), (3, .pointer (some ⟨b3, 0, none⟩)), (4, .bool (y.arr x))] ⟨rfl, rfl, rfl, rfl, rfl, trivial⟩ ?_
      refine To.thenN ?_
      refine To.ret ?_
      refine To.end1 (.inl rfl) Try.results23 rfl ?_
      simp [Ev.dep, g10, g15]
end Go.Proofs.Ytneimfacccgaeaa

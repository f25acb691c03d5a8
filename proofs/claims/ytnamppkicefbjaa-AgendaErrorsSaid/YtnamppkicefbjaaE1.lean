/- Agendas that are nil, and the walk of AgendaErrors. Own text (walks printed by sx.py). -/
import Derived.Test.YtnamppkicefbjaaC2
namespace Go.Proofs.Ytnamppkicefbjaa
open Go.RowKit Go.Flow Go.Mem Go.Sep
set_option maxHeartbeats 2000000 in
set_option maxRecDepth 100000 in
theorem nextNil_fn  :
    Does Try.prog 27 [.pointer none] [] (fun v _ => v = .tuple #[.int .i64 0, .bool false]) := by
  refine Does.enter Try.func27 rfl Try.ntmps27 rfl (fun w0 => ?_)
  refine To.seq ?_
  refine To.reg ?_
  refine To.rd rfl rfl rfl (Rd.assign rfl rfl) ?_
  refine To.rd rfl rfl rfl (Rd.assign rfl rfl) ?_
  refine To.nil ?_
  refine To.thenN ?_
  refine To.seq ?_
  refine To.seq ?_
  refine To.reg ?_
  refine To.rd rfl rfl rfl (Rd.move rfl rfl) ?_
  refine To.rd rfl rfl rfl (Rd.eqlNil rfl Try.underlying24 rfl rfl) ?_
  refine To.rd rfl rfl rfl (Rd.move rfl rfl) ?_
  refine To.sk rfl rfl rfl ?_
  refine To.sk rfl rfl rfl ?_
  refine To.sk rfl rfl rfl ?_
  refine To.sk rfl rfl rfl ?_
  refine To.sk rfl rfl rfl ?_
  refine To.sk rfl rfl rfl ?_
  refine To.rd rfl rfl rfl (Rd.pickT rfl rfl rfl) ?_
  refine To.nil ?_
  refine To.thenN ?_
  refine To.condT rfl ?_
  refine To.seq ?_
  refine To.reg ?_
  refine To.rd rfl rfl rfl (Rd.assign rfl rfl) ?_
  refine To.rd rfl rfl rfl (Rd.assign rfl rfl) ?_
  refine To.nil ?_
  refine To.thenN ?_
  refine To.ret ?_
  refine To.thenR ?_
  refine To.end2 (.inl rfl) Try.results27 rfl rfl ?_
  rfl
set_option maxHeartbeats 2000000 in
set_option maxRecDepth 100000 in
theorem addNil_fn (t : Int) (x : En) :
    Does Try.prog 18 [.pointer none, .int .i64 t, .agg (En.icells x).toArray] [] (fun v _ => v = .int .i64 1) := by
  refine Does.enter Try.func18 rfl Try.ntmps18 rfl (fun w0 => ?_)
  refine To.seq ?_
  refine To.reg ?_
  refine To.boxed rfl rfl rfl rfl rfl rfl (fun b3 => ?_)
  refine To.boxed rfl rfl rfl rfl rfl rfl (fun b5 => ?_)
  refine To.rd rfl rfl rfl (Rd.assign rfl rfl) ?_
  refine To.nil ?_
  refine To.thenN ?_
  refine To.seq ?_
  refine To.seq ?_
  refine To.reg ?_
  refine To.rd rfl rfl rfl (Rd.load (i := 1) rfl rfl c24 rfl (box_gives1 rfl)) ?_
  refine To.rd rfl rfl rfl (Rd.eqlNil rfl Try.underlying24 rfl rfl) ?_
  refine To.nil ?_
  refine To.thenN ?_
  refine To.condT rfl ?_
  refine To.seq ?_
  refine To.reg ?_
  refine To.rd rfl rfl rfl (Rd.assign rfl rfl) ?_
  refine To.nil ?_
  refine To.thenN ?_
  refine To.ret ?_
  refine To.thenR ?_
  refine To.end1 (.inl rfl) Try.results18 rfl ?_
  rfl
set_option maxHeartbeats 2000000 in
set_option maxRecDepth 100000 in
theorem takeNil_fn (t c : Int) :
    Does Try.prog 13 [.pointer none, .int .i64 t, .int .i64 c] [] (fun v _ => v = .slice none 0 0) := by
  refine Does.enter Try.func13 rfl Try.ntmps13 rfl (fun w0 => ?_)
  refine To.seq ?_
  refine To.reg ?_
  refine To.boxed rfl rfl rfl rfl rfl rfl (fun b3 => ?_)
  refine To.boxed rfl rfl rfl rfl rfl rfl (fun b4 => ?_)
  refine To.boxed rfl rfl rfl rfl rfl rfl (fun b5 => ?_)
  refine To.rd rfl rfl rfl (Rd.assign rfl rfl) ?_
  refine To.nil ?_
  refine To.thenN ?_
  refine To.seq ?_
  refine To.seq ?_
  refine To.reg ?_
  refine To.rd rfl rfl rfl (Rd.load (i := 2) rfl rfl c24 rfl (box_gives1 rfl)) ?_
  refine To.rd rfl rfl rfl (Rd.eqlNil rfl Try.underlying24 rfl rfl) ?_
  refine To.nil ?_
  refine To.thenN ?_
  refine To.condT rfl ?_
  refine To.seq ?_
  refine To.reg ?_
  refine To.rd rfl rfl rfl (Rd.assign rfl rfl) ?_
  refine To.nil ?_
  refine To.thenN ?_
  refine To.ret ?_
  refine To.thenR ?_
  refine To.end1 (.inl rfl) Try.results13 rfl ?_
  rfl
set_option maxHeartbeats 2000000 in
set_option maxRecDepth 100000 in
theorem cancelNil_fn (c : Int) :
    Does Try.prog 22 [.pointer none, .int .i64 c] [] (fun v _ => v = .int .i64 0) := by
  refine Does.enter Try.func22 rfl Try.ntmps22 rfl (fun w0 => ?_)
  refine To.seq ?_
  refine To.reg ?_
  refine To.boxed rfl rfl rfl rfl rfl rfl (fun b3 => ?_)
  refine To.rd rfl rfl rfl (Rd.assign rfl rfl) ?_
  refine To.nil ?_
  refine To.thenN ?_
  refine To.seq ?_
  refine To.seq ?_
  refine To.reg ?_
  refine To.rd rfl rfl rfl (Rd.move rfl rfl) ?_
  refine To.rd rfl rfl rfl (Rd.eqlNil rfl Try.underlying24 rfl rfl) ?_
  refine To.nil ?_
  refine To.thenN ?_
  refine To.condT rfl ?_
  refine To.seq ?_
  refine To.reg ?_
  refine To.rd rfl rfl rfl (Rd.assign rfl rfl) ?_
  refine To.nil ?_
  refine To.thenN ?_
  refine To.ret ?_
  refine To.thenR ?_
  refine To.end1 (.inl rfl) Try.results22 rfl ?_
  rfl
set_option maxHeartbeats 2000000 in
set_option maxRecDepth 100000 in
theorem lenNil_fn  :
    Does Try.prog 16 [.pointer none] [] (fun v _ => v = .int .i64 0) := by
  refine Does.enter Try.func16 rfl Try.ntmps16 rfl (fun w0 => ?_)
  refine To.seq ?_
  refine To.reg ?_
  refine To.rd rfl rfl rfl (Rd.assign rfl rfl) ?_
  refine To.nil ?_
  refine To.thenN ?_
  refine To.seq ?_
  refine To.seq ?_
  refine To.reg ?_
  refine To.rd rfl rfl rfl (Rd.move rfl rfl) ?_
  refine To.rd rfl rfl rfl (Rd.eqlNil rfl Try.underlying24 rfl rfl) ?_
  refine To.nil ?_
  refine To.thenN ?_
  refine To.condT rfl ?_
  refine To.seq ?_
  refine To.reg ?_
  refine To.rd rfl rfl rfl (Rd.assign rfl rfl) ?_
  refine To.nil ?_
  refine To.thenN ?_
  refine To.ret ?_
  refine To.thenR ?_
  refine To.end1 (.inl rfl) Try.results16 rfl ?_
  rfl
set_option maxHeartbeats 2000000 in
set_option maxRecDepth 100000 in
theorem copyNil_fn  :
    Does Try.prog 19 [.pointer none] [] (fun v _ => v = .pointer none) := by
  refine Does.enter Try.func19 rfl Try.ntmps19 rfl (fun w0 => ?_)
  refine To.seq ?_
  refine To.reg ?_
  refine To.rd rfl rfl rfl (Rd.assign rfl rfl) ?_
  refine To.nil ?_
  refine To.thenN ?_
  refine To.seq ?_
  refine To.seq ?_
  refine To.reg ?_
  refine To.rd rfl rfl rfl (Rd.move rfl rfl) ?_
  refine To.rd rfl rfl rfl (Rd.eqlNil rfl Try.underlying24 rfl rfl) ?_
  refine To.nil ?_
  refine To.thenN ?_
  refine To.condT rfl ?_
  refine To.seq ?_
  refine To.reg ?_
  refine To.rd rfl rfl rfl (Rd.assign rfl rfl) ?_
  refine To.nil ?_
  refine To.thenN ?_
  refine To.ret ?_
  refine To.thenR ?_
  refine To.end1 (.inl rfl) Try.results19 rfl ?_
  rfl
set_option maxHeartbeats 2000000 in
set_option maxRecDepth 100000 in
theorem equalNil_fn  :
    Does Try.prog 25 [.pointer none, .pointer none] [] (fun v _ => v = .bool true) := by
  refine Does.enter Try.func25 rfl Try.ntmps25 rfl (fun w0 => ?_)
  refine To.seq ?_
  refine To.reg ?_
  refine To.rd rfl rfl rfl (Rd.assign rfl rfl) ?_
  refine To.nil ?_
  refine To.thenN ?_
  refine To.seq ?_
  refine To.seq ?_
  refine To.reg ?_
  refine To.rd rfl rfl rfl (Rd.move rfl rfl) ?_
  refine To.rd rfl rfl rfl (Rd.eqlNil rfl Try.underlying24 rfl rfl) ?_
  refine To.rd rfl rfl rfl (Rd.move rfl rfl) ?_
  refine To.sk rfl rfl rfl ?_
  refine To.sk rfl rfl rfl ?_
  refine To.rd rfl rfl rfl (Rd.pickT rfl rfl rfl) ?_
  refine To.nil ?_
  refine To.thenN ?_
  refine To.condT rfl ?_
  refine To.seq ?_
  refine To.reg ?_
  refine To.rd rfl rfl rfl (Rd.move rfl rfl) ?_
  refine To.rd rfl rfl rfl (Rd.eqlNil rfl Try.underlying24 rfl rfl) ?_
  refine To.rd rfl rfl rfl (Rd.move rfl rfl) ?_
  refine To.rd rfl rfl rfl (Rd.move rfl rfl) ?_
  refine To.rd rfl rfl rfl (Rd.eqlNil rfl Try.underlying24 rfl rfl) ?_
  refine To.rd rfl rfl rfl (Rd.pickT rfl rfl rfl) ?_
  refine To.rd rfl rfl rfl (Rd.assign rfl rfl) ?_
  refine To.nil ?_
  refine To.thenN ?_
  refine To.ret ?_
  refine To.thenR ?_
  refine To.end1 (.inl rfl) Try.results25 rfl ?_
  rfl
set_option maxHeartbeats 2000000 in
set_option maxRecDepth 100000 in
theorem equalNil1_fn (a : Nat) :
    Does Try.prog 25 [.pointer none, .pointer (some ⟨a, 0, none⟩)] [] (fun v _ => v = .bool false) := by
  refine Does.enter Try.func25 rfl Try.ntmps25 rfl (fun w0 => ?_)
  refine To.seq ?_
  refine To.reg ?_
  refine To.rd rfl rfl rfl (Rd.assign rfl rfl) ?_
  refine To.nil ?_
  refine To.thenN ?_
  refine To.seq ?_
  refine To.seq ?_
  refine To.reg ?_
  refine To.rd rfl rfl rfl (Rd.move rfl rfl) ?_
  refine To.rd rfl rfl rfl (Rd.eqlNil rfl Try.underlying24 rfl rfl) ?_
  refine To.rd rfl rfl rfl (Rd.move rfl rfl) ?_
  refine To.sk rfl rfl rfl ?_
  refine To.sk rfl rfl rfl ?_
  refine To.rd rfl rfl rfl (Rd.pickT rfl rfl rfl) ?_
  refine To.nil ?_
  refine To.thenN ?_
  refine To.condT rfl ?_
  refine To.seq ?_
  refine To.reg ?_
  refine To.rd rfl rfl rfl (Rd.move rfl rfl) ?_
  refine To.rd rfl rfl rfl (Rd.eqlNil rfl Try.underlying24 rfl rfl) ?_
  refine To.rd rfl rfl rfl (Rd.move rfl rfl) ?_
  refine To.rd rfl rfl rfl (Rd.move rfl rfl) ?_
  refine To.rd rfl rfl rfl (Rd.eqlNil rfl Try.underlying24 rfl rfl) ?_
  refine To.rd rfl rfl rfl (Rd.pickT rfl rfl rfl) ?_
  refine To.rd rfl rfl rfl (Rd.assign rfl rfl) ?_
  refine To.nil ?_
  refine To.thenN ?_
  refine To.ret ?_
  refine To.thenR ?_
  refine To.end1 (.inl rfl) Try.results25 rfl ?_
  rfl
set_option maxHeartbeats 2000000 in
set_option maxRecDepth 100000 in
theorem equalNil2_fn (a : Nat) :
    Does Try.prog 25 [.pointer (some ⟨a, 0, none⟩), .pointer none] [] (fun v _ => v = .bool false) := by
  refine Does.enter Try.func25 rfl Try.ntmps25 rfl (fun w0 => ?_)
  refine To.seq ?_
  refine To.reg ?_
  refine To.rd rfl rfl rfl (Rd.assign rfl rfl) ?_
  refine To.nil ?_
  refine To.thenN ?_
  refine To.seq ?_
  refine To.seq ?_
  refine To.reg ?_
  refine To.rd rfl rfl rfl (Rd.move rfl rfl) ?_
  refine To.rd rfl rfl rfl (Rd.eqlNil rfl Try.underlying24 rfl rfl) ?_
  refine To.rd rfl rfl rfl (Rd.move rfl rfl) ?_
  refine To.rd rfl rfl rfl (Rd.move rfl rfl) ?_
  refine To.rd rfl rfl rfl (Rd.eqlNil rfl Try.underlying24 rfl rfl) ?_
  refine To.rd rfl rfl rfl (Rd.pickF rfl rfl rfl) ?_
  refine To.nil ?_
  refine To.thenN ?_
  refine To.condT rfl ?_
  refine To.seq ?_
  refine To.reg ?_
  refine To.rd rfl rfl rfl (Rd.move rfl rfl) ?_
  refine To.rd rfl rfl rfl (Rd.eqlNil rfl Try.underlying24 rfl rfl) ?_
  refine To.rd rfl rfl rfl (Rd.move rfl rfl) ?_
  refine To.sk rfl rfl rfl ?_
  refine To.sk rfl rfl rfl ?_
  refine To.rd rfl rfl rfl (Rd.pickF rfl rfl rfl) ?_
  refine To.rd rfl rfl rfl (Rd.assign rfl rfl) ?_
  refine To.nil ?_
  refine To.thenN ?_
  refine To.ret ?_
  refine To.thenR ?_
  refine To.end1 (.inl rfl) Try.results25 rfl ?_
  rfl
set_option maxHeartbeats 2000000 in
set_option maxRecDepth 100000 in
theorem errors_fn (tick x0 x1 x2 x3 x4 source : Int) (hs : 0 ≤ source ∧ source < 256) :
    Does Try.prog 9 [.int .i64 tick, .agg #[.int .i64 x0, .int .i64 x1, .int .i64 x2, .int .i64 x3, .int .i64 x4], .int .u8 source] [] (fun v _ => v = .bool true) := by
  refine Does.enter Try.func9 rfl Try.ntmps9 rfl (fun w0 => ?_)
  refine To.seq ?_
  refine To.reg ?_
  refine To.boxed rfl rfl rfl rfl rfl rfl (fun b4 => ?_)
  refine To.rd rfl rfl rfl (Rd.assign rfl rfl) ?_
  refine To.nil ?_
  refine To.thenN ?_
  refine To.seq ?_
  refine To.seq ?_
  refine To.reg ?_
  refine To.callV rfl rfl rfl (Ent.fn rfl rfl ca11) (awake_fn) rfl (oks_nil _) ?_
  refine To.rd rfl rfl rfl (Rd.not rfl rfl) ?_
  refine To.nil ?_
  refine To.thenN ?_
  refine To.condF rfl ?_
  refine To.skip ?_
  refine To.thenN ?_
  refine To.seq ?_
  refine To.reg ?_
  refine To.rd rfl rfl rfl (Rd.move rfl rfl) ?_
  refine To.rd rfl rfl rfl (Rd.move rfl rfl) ?_
  refine To.rd rfl rfl rfl (Rd.conv rfl rfl Try.underlying5 Try.underlying3 (IntWalk.i64_in _ (by omega))) ?_
  refine To.rd rfl rfl rfl (Rd.indexArr (j := 0) rfl (ArrTy.of (size := 1) Try.underlying62 (by kernel_rfl)) rfl rfl (by decide)) ?_
  refine To.rd rfl rfl rfl (Rd.load (i := 0) rfl rfl c3 rfl (box_gives1 rfl)) ?_
  refine To.rd rfl rfl rfl (Rd.indexArr (j := 1) rfl (ArrTy.of (size := 1) Try.underlying62 (by kernel_rfl)) rfl rfl (by decide)) ?_
  refine To.rd rfl rfl rfl (Rd.load (i := 0) rfl rfl c3 rfl (box_gives1 rfl)) ?_
  refine To.rd rfl rfl rfl (Rd.indexArr (j := 2) rfl (ArrTy.of (size := 1) Try.underlying62 (by kernel_rfl)) rfl rfl (by decide)) ?_
  refine To.rd rfl rfl rfl (Rd.load (i := 0) rfl rfl c3 rfl (box_gives1 rfl)) ?_
  refine To.rd rfl rfl rfl (Rd.indexArr (j := 3) rfl (ArrTy.of (size := 1) Try.underlying62 (by kernel_rfl)) rfl rfl (by decide)) ?_
  refine To.rd rfl rfl rfl (Rd.load (i := 0) rfl rfl c3 rfl (box_gives1 rfl)) ?_
  refine To.rd rfl rfl rfl (Rd.indexArr (j := 4) rfl (ArrTy.of (size := 1) Try.underlying62 (by kernel_rfl)) rfl rfl (by decide)) ?_
  refine To.rd rfl rfl rfl (Rd.load (i := 0) rfl rfl c3 rfl (box_gives1 rfl)) ?_
  refine To.rd rfl rfl rfl (Rd.build (vs := [(0, .int .i64 tick), (1, .int .i64 source), (2, .int .i64 x0), (3, .int .i64 x1), (4, .int .i64 x2), (5, .int .i64 x3), (6, .int .i64 x4)]) (cells := [.int .i64 tick, .int .i64 source, .int .i64 x0, .int .i64 x1, .int .i64 x2, .int .i64 x3, .int .i64 x4, .slice none 0 0]) rfl rfl rfl (by kernel_rfl)) ?_
  refine To.alloc rfl rfl rfl rfl z30 (fun b7 => ?_)
  refine To.up rfl rfl (Up.storeS (i := 0) rfl rfl rfl r30 rfl rfl rfl (box_takesAll rfl)) ?_
  refine To.nil ?_
  refine To.sub [(0, .int .i64 tick), (1, .agg #[.int .i64 x0, .int .i64 x1, .int .i64 x2, .int .i64 x3, .int .i64 x4]), (6, .bool false), (14, .bool true), (15, .bool false), (7, .pointer (some ⟨b7, 0, none⟩))] ⟨rfl, rfl, rfl, rfl, rfl, rfl, trivial⟩ ?_
  refine To.thenN ?_
  refine To.seq ?_
  refine To.reg ?_
  refine To.rd rfl rfl rfl (Rd.assign rfl rfl) ?_
  refine To.nil ?_
  refine To.thenN ?_
  refine To.seq ?_
  refine To.seq ?_
  refine To.reg ?_
  refine To.rd rfl rfl rfl (Rd.loadS (i := 0) rfl rfl r30 rfl box_whole rfl) ?_
  refine To.callV rfl rfl rfl (Ent.fn rfl rfl ca28) (valid_fn (En.mk tick source x0 x1 x2 x3 x4 [] none 0)) rfl (oks_nil _) ?_
  refine To.nil ?_
  refine To.thenN ?_
  refine To.cond rfl (fun c31 => ?_) (fun c31 => ?_)
  ·
    have he : errE tick source x0 x1 x2 x3 x4 = 0 := by unfold errE; rw [c31]; rfl
    refine To.reg ?_
    refine To.rd rfl rfl rfl (Rd.assign rfl rfl) ?_
    refine To.nil ?_
    refine To.thenN ?_
    refine To.seq ?_
    refine To.reg ?_
    refine To.callQ rfl rfl rfl (Ent.fn rfl rfl ca17) (new_fn) rfl (oks_nil _) ?_
    rintro _ _ ⟨a, rfl, rfl⟩
    refine ⟨rfl, ?_⟩
    refine To.as [agc a (.slice none 0 0) [], box b7 [.int .i64 tick, .int .i64 source, .int .i64 x0, .int .i64 x1, .int .i64 x2, .int .i64 x3, .int .i64 x4, .slice none 0 0] 30, box b4 [.int .i64 x0, .int .i64 x1, .int .i64 x2, .int .i64 x3, .int .i64 x4] 62] rfl ?_
    refine To.rd rfl rfl rfl (Rd.assign rfl rfl) ?_
    refine To.nil ?_
    refine To.thenN ?_
    refine To.seq ?_
    refine To.reg ?_
    refine To.rd rfl rfl rfl (Rd.assign rfl rfl) ?_
    refine To.nil ?_
    refine To.thenN ?_
    refine To.seq ?_
    refine To.reg ?_
    refine To.rd rfl rfl rfl (Rd.move rfl rfl) ?_
    refine To.callV rfl rfl rfl (Ent.fn rfl rfl ca27) (nextNil_fn) rfl (oks_nil _) ?_
    refine To.rd rfl rfl rfl (Rd.move rfl rfl) ?_
    refine To.rd rfl rfl rfl (Rd.extract rfl rfl rfl) ?_
    refine To.rd rfl rfl rfl (Rd.extract rfl rfl rfl) ?_
    refine To.rd rfl rfl rfl (Rd.assign rfl rfl) ?_
    refine To.rd rfl rfl rfl (Rd.assign rfl rfl) ?_
    refine To.nil ?_
    refine To.thenN ?_
    refine To.seq ?_
    refine To.seq ?_
    refine To.reg ?_
    refine To.rd rfl rfl rfl (Rd.move rfl rfl) ?_
    refine To.rd rfl rfl rfl (Rd.move rfl rfl) ?_
    refine To.rd rfl rfl rfl (Rd.loadS (i := 1) rfl rfl r30 rfl box_whole rfl) ?_
    refine To.callV rfl rfl rfl (Ent.fn rfl rfl ca24) (item_fn (En.mk tick source x0 x1 x2 x3 x4 [] none 0) (by simp only; omega)) rfl (oks_nil _) ?_
    refine To.callV rfl rfl rfl (Ent.fn rfl rfl ca18) (addNil_fn tick (En.mk tick source x0 x1 x2 x3 x4 [] none 0)) rfl (oks_nil _) ?_
    refine To.rd rfl rfl rfl (Rd.neq rfl rfl rfl) ?_
    refine To.rd rfl rfl rfl (Rd.move rfl rfl) ?_
    refine To.rd rfl rfl rfl (Rd.move rfl rfl) ?_
    refine To.rd rfl rfl rfl (Rd.move rfl rfl) ?_
    refine To.callV rfl rfl rfl (Ent.fn rfl rfl ca13) (takeNil_fn tick 0) rfl (oks_nil _) ?_
    refine To.rd rfl rfl rfl (Rd.len rfl rfl Try.underlying31) ?_
    refine To.rd rfl rfl rfl (Rd.neq rfl rfl rfl) ?_
    refine To.rd rfl rfl rfl (Rd.pickF rfl rfl rfl) ?_
    refine To.rd rfl rfl rfl (Rd.move rfl rfl) ?_
    refine To.rd rfl rfl rfl (Rd.move rfl rfl) ?_
    refine To.callV rfl rfl rfl (Ent.fn rfl rfl ca22) (cancelNil_fn 0) rfl (oks_nil _) ?_
    refine To.rd rfl rfl rfl (Rd.neq rfl rfl rfl) ?_
    refine To.rd rfl rfl rfl (Rd.pickF rfl rfl rfl) ?_
    refine To.rd rfl rfl rfl (Rd.move rfl rfl) ?_
    refine To.rd rfl rfl rfl (Rd.move rfl rfl) ?_
    refine To.rd rfl rfl rfl (Rd.pickF rfl rfl rfl) ?_
    refine To.rd rfl rfl rfl (Rd.move rfl rfl) ?_
    refine To.rd rfl rfl rfl (Rd.move rfl rfl) ?_
    refine To.callV rfl rfl rfl (Ent.fn rfl rfl ca16) (lenNil_fn) rfl (oks_nil _) ?_
    refine To.rd rfl rfl rfl (Rd.neq rfl rfl rfl) ?_
    refine To.rd rfl rfl rfl (Rd.pickF rfl rfl rfl) ?_
    refine To.rd rfl rfl rfl (Rd.move rfl rfl) ?_
    refine To.rd rfl rfl rfl (Rd.move rfl rfl) ?_
    refine To.callV rfl rfl rfl (Ent.fn rfl rfl ca19) (copyNil_fn) rfl (oks_nil _) ?_
    refine To.rd rfl rfl rfl (Rd.neqNil rfl Try.underlying24 rfl rfl) ?_
    refine To.rd rfl rfl rfl (Rd.pickF rfl rfl rfl) ?_
    refine To.rd rfl rfl rfl (Rd.move rfl rfl) ?_
    refine To.rd rfl rfl rfl (Rd.move rfl rfl) ?_
    refine To.callV rfl rfl rfl (Ent.fn rfl rfl ca25) (equalNil_fn) rfl (oks_nil _) ?_
    refine To.rd rfl rfl rfl (Rd.not rfl rfl) ?_
    refine To.rd rfl rfl rfl (Rd.pickF rfl rfl rfl) ?_
    refine To.rd rfl rfl rfl (Rd.move rfl rfl) ?_
    refine To.rd rfl rfl rfl (Rd.move rfl rfl) ?_
    refine To.rd rfl rfl rfl (Rd.move rfl rfl) ?_
    refine To.callV rfl rfl rfl (Ent.fn rfl rfl ca25) (equalNil1_fn a) rfl (oks_nil _) ?_
    refine To.rd rfl rfl rfl (Rd.pickF rfl rfl rfl) ?_
    refine To.rd rfl rfl rfl (Rd.move rfl rfl) ?_
    refine To.rd rfl rfl rfl (Rd.move rfl rfl) ?_
    refine To.callV rfl rfl rfl (Ent.fn rfl rfl ca25) (equalNil2_fn a) rfl (oks_nil _) ?_
    refine To.rd rfl rfl rfl (Rd.pickF rfl rfl rfl) ?_
    refine To.nil ?_
    refine To.sub [(0, .int .i64 tick), (1, .agg #[.int .i64 x0, .int .i64 x1, .int .i64 x2, .int .i64 x3, .int .i64 x4]), (6, .bool false), (14, .bool true), (15, .bool false), (7, .pointer (some ⟨b7, 0, none⟩)), (8, .int .i64 0), (30, .agg #[.int .i64 tick, .int .i64 source, .int .i64 x0, .int .i64 x1, .int .i64 x2, .int .i64 x3, .int .i64 x4, .slice none 0 0]), (31, .bool (validE tick source x0 x1 x2 x3 x4)), (32, .pointer (some ⟨a, 0, none⟩)), (9, .pointer (some ⟨a, 0, none⟩)), (10, .pointer none), (34, .pointer none), (35, .tuple #[.int .i64 0, .bool false]), (33, .tuple #[.int .i64 0, .bool false]), (36, .int .i64 0), (37, .bool false), (82, .bool false)] ⟨rfl, rfl, rfl, rfl, rfl, rfl, rfl, rfl, rfl, rfl, rfl, rfl, rfl, rfl, rfl, rfl, rfl, rfl, trivial⟩ ?_
    refine To.thenN ?_
    refine To.condF rfl ?_
    refine To.skip ?_
    refine To.thenN ?_
    refine To.seq ?_
    refine To.reg ?_
    refine To.rd rfl rfl rfl (Rd.assign rfl rfl) ?_
    refine To.nil ?_
    refine To.thenN ?_
    refine To.seq ?_
    refine To.seq ?_
    refine To.reg ?_
    refine To.rd rfl rfl rfl (Rd.move rfl rfl) ?_
    refine To.rd rfl rfl rfl (Rd.eql rfl rfl rfl) ?_
    refine To.nil ?_
    refine To.thenN ?_
    refine To.condT rfl ?_
    refine To.reg ?_
    refine To.rd rfl rfl rfl (Rd.assign rfl rfl) ?_
    refine To.nil ?_
    refine To.thenN ?_
    refine To.seq ?_
    refine To.reg ?_
    refine To.rd rfl rfl rfl (Rd.move rfl rfl) ?_
    refine To.rd rfl rfl rfl (Rd.move rfl rfl) ?_
    refine To.rd rfl rfl rfl (Rd.loadS (i := 1) rfl rfl r30 rfl box_whole rfl) ?_
    refine To.callV rfl rfl rfl (Ent.fn rfl rfl ca24) (item_fn (En.mk tick source x0 x1 x2 x3 x4 [] none 0) (by simp only; omega)) rfl (oks_nil _) ?_
    refine To.free (c := ro none (ints [])) rfl rfl (fun w => .inl rfl) ?_
    refine To.call [1, 0] rfl rfl rfl (Ent.fn rfl rfl ca18) rfl (addE_fn a (.slice none 0 0) [] (En.mk tick source x0 x1 x2 x3 x4 [] none 0) (by simp) (by simp)) ?_
    rintro _ _ ⟨L2, v2, rfl, rfl, hyes, hno⟩
    refine To.as [agc a v2 L2, box b7 [.int .i64 tick, .int .i64 source, .int .i64 x0, .int .i64 x1, .int .i64 x2, .int .i64 x3, .int .i64 x4, .slice none 0 0] 30, box b4 [.int .i64 x0, .int .i64 x1, .int .i64 x2, .int .i64 x3, .int .i64 x4] 62] rfl ?_
    refine To.rd rfl rfl rfl (Rd.move rfl rfl) ?_
    refine To.rd rfl rfl rfl (Rd.eql rfl rfl rfl) ?_
    refine To.rdP rfl rfl rfl (Rd.move rfl rfl) (fun g92 => ?_) (fun g92 => ?_)
    ·
      refine To.rd rfl rfl rfl (Rd.move rfl rfl) ?_
      refine To.call [0] rfl rfl rfl (Ent.fn rfl rfl ca16) rfl (len_fn a v2 L2) ?_
      rintro _ _ ⟨rfl, rfl⟩
      refine To.as [agc a v2 L2, box b7 [.int .i64 tick, .int .i64 source, .int .i64 x0, .int .i64 x1, .int .i64 x2, .int .i64 x3, .int .i64 x4, .slice none 0 0] 30, box b4 [.int .i64 x0, .int .i64 x1, .int .i64 x2, .int .i64 x3, .int .i64 x4] 62] rfl ?_
      refine To.rd rfl rfl rfl (Rd.move rfl rfl) ?_
      refine To.rd rfl rfl rfl (Rd.eql rfl rfl rfl) ?_
      refine To.rd rfl rfl rfl (Rd.pickT rfl rfl rfl) ?_
      refine To.rd rfl rfl rfl (Rd.assign rfl rfl) ?_
      refine To.nil ?_
      refine To.sub [(0, .int .i64 tick), (1, .agg #[.int .i64 x0, .int .i64 x1, .int .i64 x2, .int .i64 x3, .int .i64 x4]), (6, .bool (decide (((L2.length : Nat) : Int) = 1))), (14, .bool true), (15, .bool false), (7, .pointer (some ⟨b7, 0, none⟩)), (8, .int .i64 0), (30, .agg #[.int .i64 tick, .int .i64 source, .int .i64 x0, .int .i64 x1, .int .i64 x2, .int .i64 x3, .int .i64 x4, .slice none 0 0]), (31, .bool (validE tick source x0 x1 x2 x3 x4)), (32, .pointer (some ⟨a, 0, none⟩)), (9, .pointer (some ⟨a, 0, none⟩)), (10, .pointer none), (34, .pointer none), (35, .tuple #[.int .i64 0, .bool false]), (33, .tuple #[.int .i64 0, .bool false]), (36, .int .i64 0), (37, .bool false), (82, .bool false), (83, .int .i64 0), (84, .bool true)] ⟨rfl, rfl, rfl, rfl, rfl, rfl, rfl, rfl, rfl, rfl, rfl, rfl, rfl, rfl, rfl, rfl, rfl, rfl, rfl, rfl, trivial⟩ ?_
      refine To.thenN ?_
      refine To.ret ?_
      refine To.end1 (.inl rfl) Try.results9 rfl ?_
      obtain ⟨A, cap, rfl⟩ := hyes he
      rw [decide_eq_true (by rw [(insE_perm _ _).length_eq]; rfl)]
    ·
      exact absurd he g92
  ·
    have he : errE tick source x0 x1 x2 x3 x4 = 1 := by unfold errE; rw [c31]; rfl
    refine To.skip ?_
    refine To.thenN ?_
    refine To.seq ?_
    refine To.reg ?_
    refine To.callQ rfl rfl rfl (Ent.fn rfl rfl ca17) (new_fn) rfl (oks_nil _) ?_
    rintro _ _ ⟨a, rfl, rfl⟩
    refine ⟨rfl, ?_⟩
    refine To.as [agc a (.slice none 0 0) [], box b7 [.int .i64 tick, .int .i64 source, .int .i64 x0, .int .i64 x1, .int .i64 x2, .int .i64 x3, .int .i64 x4, .slice none 0 0] 30, box b4 [.int .i64 x0, .int .i64 x1, .int .i64 x2, .int .i64 x3, .int .i64 x4] 62] rfl ?_
    refine To.rd rfl rfl rfl (Rd.assign rfl rfl) ?_
    refine To.nil ?_
    refine To.thenN ?_
    refine To.seq ?_
    refine To.reg ?_
    refine To.rd rfl rfl rfl (Rd.assign rfl rfl) ?_
    refine To.nil ?_
    refine To.thenN ?_
    refine To.seq ?_
    refine To.reg ?_
    refine To.rd rfl rfl rfl (Rd.move rfl rfl) ?_
    refine To.callV rfl rfl rfl (Ent.fn rfl rfl ca27) (nextNil_fn) rfl (oks_nil _) ?_
    refine To.rd rfl rfl rfl (Rd.move rfl rfl) ?_
    refine To.rd rfl rfl rfl (Rd.extract rfl rfl rfl) ?_
    refine To.rd rfl rfl rfl (Rd.extract rfl rfl rfl) ?_
    refine To.rd rfl rfl rfl (Rd.assign rfl rfl) ?_
    refine To.rd rfl rfl rfl (Rd.assign rfl rfl) ?_
    refine To.nil ?_
    refine To.thenN ?_
    refine To.seq ?_
    refine To.seq ?_
    refine To.reg ?_
    refine To.rd rfl rfl rfl (Rd.move rfl rfl) ?_
    refine To.rd rfl rfl rfl (Rd.move rfl rfl) ?_
    refine To.rd rfl rfl rfl (Rd.loadS (i := 1) rfl rfl r30 rfl box_whole rfl) ?_
    refine To.callV rfl rfl rfl (Ent.fn rfl rfl ca24) (item_fn (En.mk tick source x0 x1 x2 x3 x4 [] none 0) (by simp only; omega)) rfl (oks_nil _) ?_
    refine To.callV rfl rfl rfl (Ent.fn rfl rfl ca18) (addNil_fn tick (En.mk tick source x0 x1 x2 x3 x4 [] none 0)) rfl (oks_nil _) ?_
    refine To.rd rfl rfl rfl (Rd.neq rfl rfl rfl) ?_
    refine To.rd rfl rfl rfl (Rd.move rfl rfl) ?_
    refine To.rd rfl rfl rfl (Rd.move rfl rfl) ?_
    refine To.rd rfl rfl rfl (Rd.move rfl rfl) ?_
    refine To.callV rfl rfl rfl (Ent.fn rfl rfl ca13) (takeNil_fn tick 0) rfl (oks_nil _) ?_
    refine To.rd rfl rfl rfl (Rd.len rfl rfl Try.underlying31) ?_
    refine To.rd rfl rfl rfl (Rd.neq rfl rfl rfl) ?_
    refine To.rd rfl rfl rfl (Rd.pickF rfl rfl rfl) ?_
    refine To.rd rfl rfl rfl (Rd.move rfl rfl) ?_
    refine To.rd rfl rfl rfl (Rd.move rfl rfl) ?_
    refine To.callV rfl rfl rfl (Ent.fn rfl rfl ca22) (cancelNil_fn 0) rfl (oks_nil _) ?_
    refine To.rd rfl rfl rfl (Rd.neq rfl rfl rfl) ?_
    refine To.rd rfl rfl rfl (Rd.pickF rfl rfl rfl) ?_
    refine To.rd rfl rfl rfl (Rd.move rfl rfl) ?_
    refine To.rd rfl rfl rfl (Rd.move rfl rfl) ?_
    refine To.rd rfl rfl rfl (Rd.pickF rfl rfl rfl) ?_
    refine To.rd rfl rfl rfl (Rd.move rfl rfl) ?_
    refine To.rd rfl rfl rfl (Rd.move rfl rfl) ?_
    refine To.callV rfl rfl rfl (Ent.fn rfl rfl ca16) (lenNil_fn) rfl (oks_nil _) ?_
    refine To.rd rfl rfl rfl (Rd.neq rfl rfl rfl) ?_
    refine To.rd rfl rfl rfl (Rd.pickF rfl rfl rfl) ?_
    refine To.rd rfl rfl rfl (Rd.move rfl rfl) ?_
    refine To.rd rfl rfl rfl (Rd.move rfl rfl) ?_
    refine To.callV rfl rfl rfl (Ent.fn rfl rfl ca19) (copyNil_fn) rfl (oks_nil _) ?_
    refine To.rd rfl rfl rfl (Rd.neqNil rfl Try.underlying24 rfl rfl) ?_
    refine To.rd rfl rfl rfl (Rd.pickF rfl rfl rfl) ?_
    refine To.rd rfl rfl rfl (Rd.move rfl rfl) ?_
    refine To.rd rfl rfl rfl (Rd.move rfl rfl) ?_
    refine To.callV rfl rfl rfl (Ent.fn rfl rfl ca25) (equalNil_fn) rfl (oks_nil _) ?_
    refine To.rd rfl rfl rfl (Rd.not rfl rfl) ?_
    refine To.rd rfl rfl rfl (Rd.pickF rfl rfl rfl) ?_
    refine To.rd rfl rfl rfl (Rd.move rfl rfl) ?_
    refine To.rd rfl rfl rfl (Rd.move rfl rfl) ?_
    refine To.rd rfl rfl rfl (Rd.move rfl rfl) ?_
    refine To.callV rfl rfl rfl (Ent.fn rfl rfl ca25) (equalNil1_fn a) rfl (oks_nil _) ?_
    refine To.rd rfl rfl rfl (Rd.pickF rfl rfl rfl) ?_
    refine To.rd rfl rfl rfl (Rd.move rfl rfl) ?_
    refine To.rd rfl rfl rfl (Rd.move rfl rfl) ?_
    refine To.callV rfl rfl rfl (Ent.fn rfl rfl ca25) (equalNil2_fn a) rfl (oks_nil _) ?_
    refine To.rd rfl rfl rfl (Rd.pickF rfl rfl rfl) ?_
    refine To.nil ?_
    refine To.sub [(0, .int .i64 tick), (1, .agg #[.int .i64 x0, .int .i64 x1, .int .i64 x2, .int .i64 x3, .int .i64 x4]), (6, .bool false), (14, .bool true), (15, .bool false), (7, .pointer (some ⟨b7, 0, none⟩)), (8, .int .i64 1), (30, .agg #[.int .i64 tick, .int .i64 source, .int .i64 x0, .int .i64 x1, .int .i64 x2, .int .i64 x3, .int .i64 x4, .slice none 0 0]), (31, .bool (validE tick source x0 x1 x2 x3 x4)), (32, .pointer (some ⟨a, 0, none⟩)), (9, .pointer (some ⟨a, 0, none⟩)), (10, .pointer none), (34, .pointer none), (35, .tuple #[.int .i64 0, .bool false]), (33, .tuple #[.int .i64 0, .bool false]), (36, .int .i64 0), (37, .bool false), (82, .bool false)] ⟨rfl, rfl, rfl, rfl, rfl, rfl, rfl, rfl, rfl, rfl, rfl, rfl, rfl, rfl, rfl, rfl, rfl, rfl, trivial⟩ ?_
    refine To.thenN ?_
    refine To.condF rfl ?_
    refine To.skip ?_
    refine To.thenN ?_
    refine To.seq ?_
    refine To.reg ?_
    refine To.rd rfl rfl rfl (Rd.assign rfl rfl) ?_
    refine To.nil ?_
    refine To.thenN ?_
    refine To.seq ?_
    refine To.seq ?_
    refine To.reg ?_
    refine To.rd rfl rfl rfl (Rd.move rfl rfl) ?_
    refine To.rd rfl rfl rfl (Rd.eql rfl rfl rfl) ?_
    refine To.nil ?_
    refine To.thenN ?_
    refine To.condF rfl ?_
    refine To.skip ?_
    refine To.thenN ?_
    refine To.seq ?_
    refine To.reg ?_
    refine To.rd rfl rfl rfl (Rd.move rfl rfl) ?_
    refine To.rd rfl rfl rfl (Rd.move rfl rfl) ?_
    refine To.rd rfl rfl rfl (Rd.loadS (i := 1) rfl rfl r30 rfl box_whole rfl) ?_
    refine To.callV rfl rfl rfl (Ent.fn rfl rfl ca24) (item_fn (En.mk tick source x0 x1 x2 x3 x4 [] none 0) (by simp only; omega)) rfl (oks_nil _) ?_
    refine To.free (c := ro none (ints [])) rfl rfl (fun w => .inl rfl) ?_
    refine To.call [1, 0] rfl rfl rfl (Ent.fn rfl rfl ca18) rfl (addE_fn a (.slice none 0 0) [] (En.mk tick source x0 x1 x2 x3 x4 [] none 0) (by simp) (by simp)) ?_
    rintro _ _ ⟨L2, v2, rfl, rfl, hyes, hno⟩
    refine To.as [agc a v2 L2, box b7 [.int .i64 tick, .int .i64 source, .int .i64 x0, .int .i64 x1, .int .i64 x2, .int .i64 x3, .int .i64 x4, .slice none 0 0] 30, box b4 [.int .i64 x0, .int .i64 x1, .int .i64 x2, .int .i64 x3, .int .i64 x4] 62] rfl ?_
    refine To.rd rfl rfl rfl (Rd.move rfl rfl) ?_
    refine To.rd rfl rfl rfl (Rd.eql rfl rfl rfl) ?_
    refine To.rdP rfl rfl rfl (Rd.move rfl rfl) (fun g92 => ?_) (fun g92 => ?_)
    ·
      refine To.rd rfl rfl rfl (Rd.move rfl rfl) ?_
      refine To.call [0] rfl rfl rfl (Ent.fn rfl rfl ca16) rfl (len_fn a v2 L2) ?_
      rintro _ _ ⟨rfl, rfl⟩
      refine To.as [agc a v2 L2, box b7 [.int .i64 tick, .int .i64 source, .int .i64 x0, .int .i64 x1, .int .i64 x2, .int .i64 x3, .int .i64 x4, .slice none 0 0] 30, box b4 [.int .i64 x0, .int .i64 x1, .int .i64 x2, .int .i64 x3, .int .i64 x4] 62] rfl ?_
      refine To.rd rfl rfl rfl (Rd.move rfl rfl) ?_
      refine To.rd rfl rfl rfl (Rd.eql rfl rfl rfl) ?_
      refine To.rd rfl rfl rfl (Rd.pickT rfl rfl rfl) ?_
      refine To.rd rfl rfl rfl (Rd.assign rfl rfl) ?_
      refine To.nil ?_
      refine To.sub [(0, .int .i64 tick), (1, .agg #[.int .i64 x0, .int .i64 x1, .int .i64 x2, .int .i64 x3, .int .i64 x4]), (6, .bool (decide (((L2.length : Nat) : Int) = 0))), (14, .bool true), (15, .bool false), (7, .pointer (some ⟨b7, 0, none⟩)), (8, .int .i64 1), (30, .agg #[.int .i64 tick, .int .i64 source, .int .i64 x0, .int .i64 x1, .int .i64 x2, .int .i64 x3, .int .i64 x4, .slice none 0 0]), (31, .bool (validE tick source x0 x1 x2 x3 x4)), (32, .pointer (some ⟨a, 0, none⟩)), (9, .pointer (some ⟨a, 0, none⟩)), (10, .pointer none), (34, .pointer none), (35, .tuple #[.int .i64 0, .bool false]), (33, .tuple #[.int .i64 0, .bool false]), (36, .int .i64 0), (37, .bool false), (82, .bool false), (83, .int .i64 1), (84, .bool false)] ⟨rfl, rfl, rfl, rfl, rfl, rfl, rfl, rfl, rfl, rfl, rfl, rfl, rfl, rfl, rfl, rfl, rfl, rfl, rfl, rfl, trivial⟩ ?_
      refine To.thenN ?_
      refine To.ret ?_
      refine To.end1 (.inl rfl) Try.results9 rfl ?_
      rw [decide_eq_true (by rw [hno (by omega)]; rfl)]
    ·
      exact absurd he g92
theorem five {zs : List Int} (h : zs.length = 5) : ∃ x0 x1 x2 x3 x4, zs = [x0, x1, x2, x3, x4] := by
  match zs, h with
  | [x0, x1, x2, x3, x4], _ => exact ⟨x0, x1, x2, x3, x4, rfl⟩
end Go.Proofs.Ytnamppkicefbjaa

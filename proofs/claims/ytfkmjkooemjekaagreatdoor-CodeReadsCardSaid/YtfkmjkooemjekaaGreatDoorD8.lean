/- Two equal units compared. Own text (walks printed by sx.py). -/
import Derived.Test.YtfkmjkooemjekaaGreatDoorL1
import Derived.Test.YtfkmjkooemjekaaGreatDoorD7
set_option linter.unusedVariables false
set_option linter.unusedSimpArgs false
namespace Go.Proofs.YtfkmjkooemjekaaGreatDoor
open Go.RowKit Go.Flow Go.Mem Go.Sep
theorem flatIn : FlatTy Tryz.prog 64 [.u8, .i64, .i64, .i64] := ⟨⟨_, Tryz.underlying64, by kernel_rfl⟩, by kernel_rfl, by kernel_rfl⟩
set_option maxHeartbeats 2000000 in
set_option maxRecDepth 100000 in
theorem same_fn (pr st : Int) (A1 A2 : Option Addr) (q1 q2 : Nat) (l : List Ins) (hl : l.length ≤ 1000000) :
    Does Tryz.prog 12 [.agg #[.int .i64 pr, .int .i64 st, .slice A1 l.length q1], .agg #[.int .i64 pr, .int .i64 st, .slice A2 l.length q2]] [ros Ins.cells A1 l, ros Ins.cells A2 l] (fun v _ => v = .bool true) := by
  refine Does.enter Tryz.func12 rfl Tryz.ntmps12 rfl (fun w0 => ?_)
  refine To.seq (To.reg ?_)
  refine To.boxed rfl rfl rfl rfl rfl rfl (fun b2 => ?_)
  refine To.boxed rfl rfl rfl rfl rfl rfl (fun b3 => ?_)
  refine To.a (To.nil (To.thenN (To.seq (To.seq (To.reg ?_)))))
  refine To.f fl32_0 ?_
  refine To.lo 1 c3 ?_
  refine To.f fl32_0 ?_
  refine To.lo 0 c3 ?_
  refine To.r (Rd.neq rfl rfl rfl) ?_
  refine To.rdP rfl rfl rfl (Rd.move rfl rfl) (fun g11 => ?_) (fun g11 => ?_)
  ·
   exact absurd rfl g11
  refine To.f fl32_1 ?_
  refine To.lo 1 c3 ?_
  refine To.f fl32_1 ?_
  refine To.lo 0 c3 ?_
  refine To.r (Rd.neq rfl rfl rfl) ?_
  refine To.r (Rd.pickF rfl rfl rfl) ?_
  refine To.rdP rfl rfl rfl (Rd.move rfl rfl) (fun g18 => ?_) (fun g18 => ?_)
  ·
   exact absurd rfl g18
  refine To.f fl32_2 ?_
  refine To.lo 1 c30 ?_
  refine To.r (Rd.len rfl rfl Tryz.underlying30) ?_
  refine To.f fl32_2 ?_
  refine To.lo 0 c30 ?_
  refine To.r (Rd.len rfl rfl Tryz.underlying30) ?_
  refine To.r (Rd.neq rfl rfl rfl) ?_
  refine To.r (Rd.pickF rfl rfl rfl) ?_
  refine To.nil (To.thenN ?_)
  refine To.condP rfl (fun c26 => ?_) (fun c26 => ?_)
  ·
   exact absurd rfl c26
  refine To.skip (To.thenN (To.seq (To.seq (To.reg ?_))))
  refine To.f fl32_2 ?_
  refine To.lo 1 c30 ?_
  refine To.r (Rd.len rfl rfl Tryz.underlying30) ?_
  refine To.m (To.nil (To.thenN (To.block ?_)))
  refine To.sub [(2, .pointer (some ⟨b2, 0, none⟩)), (3, .pointer (some ⟨b3, 0, none⟩)), (29, .int .i64 ((l.length : Nat) : Int)), (30, .int .i64 ((0 : Nat) : Int))] ⟨rfl, rfl, rfl, rfl, trivial⟩ ?_
  refine To.only [1, 0, 0, 0] rfl ?_
  refine To.loop (fun mz ρ Γ => ∃ (i : Nat), ρ = [(2, .pointer (some ⟨b2, 0, none⟩)), (3, .pointer (some ⟨b3, 0, none⟩)), (29, .int .i64 ((l.length : Nat) : Int)), (30, .int .i64 ((i : Nat) : Int))] ∧ Γ = [box b2 [.int .i64 pr, .int .i64 st, .slice A1 l.length q1] 32, box b3 [.int .i64 pr, .int .i64 st, .slice A2 l.length q2] 32, ros Ins.cells A1 l, ros Ins.cells A2 l] ∧ mz = l.length - i ∧ (i ≤ l.length)) (l.length - 0) ⟨0, rfl, rfl, rfl, (Nat.zero_le _)⟩ ?_
  rintro mz _ _ ⟨i, rfl, rfl, rfl, hi⟩
  refine To.seq (To.reg ?_)
  refine To.r (Rd.lss rfl rfl rfl) ?_
  refine To.nil (To.thenN (To.seq ?_))
  refine To.condP rfl (fun c31 => ?_) (fun c31 => ?_)
  ·
   obtain ⟨x, hx⟩ : ∃ z0, l[i]? = some z0 := ⟨l[i]'(by omega), List.getElem?_eq_getElem _⟩
   refine To.skip (To.thenN (To.seq (To.block (To.seq (To.reg (To.m ?_))))))
   refine To.a (To.nil (To.thenN (To.seq ?_)))
   refine To.flow [box b2 [.int .i64 pr, .int .i64 st, .slice A1 l.length q1] 32, box b3 [.int .i64 pr, .int .i64 st, .slice A2 l.length q2] 32, ros Ins.cells A1 l, ros Ins.cells A2 l] [⟨0, [], 0⟩, ⟨1, [], 0⟩, ⟨2, [], 0⟩, ⟨5, [], 0⟩, ⟨6, [], 0⟩, ⟨7, [], 0⟩, ⟨3, [], 1⟩, ⟨4, [], 0⟩, ⟨8, [], 1⟩, ⟨9, [], 0⟩, ⟨10, [], 0⟩] mixed (by kernel_rfl) (oks_cons (oks_at 0 rfl) (oks_cons (oks_at 1 rfl) (oks_cons (oks_at 2 rfl) (oks_cons (oks_at 3 rfl) (oks_nil _))))) ?_
   refine FlowS.fi fl32_2 ?_
   refine FlowS.th 0 c30 ?_
   refine FlowS.mo ?_
   refine FlowS.fi fl32_2 ?_
   refine FlowS.th 1 c30 ?_
   refine FlowS.mo ?_
   refine FlowS.r rfl (Rd.indexRos encIn (i := 2) (j := i) rfl rfl rfl s30 rfl hx) ?_
   refine FlowS.f rfl (Rd.loadS (i := 2) rfl rfl r64 rfl (ros_gives encIn hx) (encIn.len _)) ?_
   refine FlowS.r rfl (Rd.indexRos encIn (i := 3) (j := i) rfl rfl rfl s30 rfl hx) ?_
   refine FlowS.f rfl (Rd.loadS (i := 3) rfl rfl r64 rfl (ros_gives encIn hx) (encIn.len _)) ?_
   refine FlowS.f rfl (Rd.as (v' := .bool (false)) (congrArg Value.bool (decide_eq_false (fun h => h rfl))) (Rd.neqF (ks := [.u8, .i64, .i64, .i64]) (xs := [((x.op : Nat) : Int), x.a, x.b, x.n]) (ys := [((x.op : Nat) : Int), x.a, x.b, x.n]) flatIn rfl rfl rfl rfl rfl)) ?_
   refine FlowS.fin ?_
   refine To.thenN ?_
   refine To.condF rfl ?_
   refine To.skip (To.blockN (To.thenN (To.reg ?_)))
   refine To.r (Rd.inc rfl rfl rfl (by omega)) ?_
   refine To.m (To.nil (To.thenN ?_))
   refine To.sub [(2, .pointer (some ⟨b2, 0, none⟩)), (3, .pointer (some ⟨b3, 0, none⟩)), (29, .int .i64 ((l.length : Nat) : Int)), (30, .int .i64 (((i + 1) : Nat) : Int))] ⟨rfl, rfl, rfl, rfl, trivial⟩ ?_
   refine To.only [0, 0, 0, 0] rfl ?_
   refine To.again (l.length - (i + 1)) (by omega) ⟨i + 1, rfl, rfl, rfl, (by omega)⟩
  refine To.exit (To.thenX (To.thenX (To.blockX (To.thenN (To.seq (To.reg (To.a (To.nil (To.thenN (To.ret ?_))))))))))
  refine To.only [] rfl ?_
  refine To.end1 (.inl rfl) Tryz.results12 rfl ?_
  rfl
end Go.Proofs.YtfkmjkooemjekaaGreatDoor

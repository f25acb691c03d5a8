/- CodeSpoils: the walk of the law. Own text (walks printed by sx.py). -/
import Derived.Test.YtllalpnmagpkfaaGreatDoorS1
import Derived.Test.YtllalpnmagpkfaaGreatDoorA19
import Derived.Test.YtllalpnmagpkfaaGreatDoorC10
set_option linter.unusedVariables false
set_option linter.unusedSimpArgs false
set_option maxHeartbeats 2000000
set_option maxRecDepth 100000
namespace Go.Proofs.YtllalpnmagpkfaaGreatDoor
open Go.RowKit Go.Flow Go.Mem Go.Sep Go.In
theorem rv_fn (pr st : Int) (A : Option Addr) (q : Nat) (l : List Ins) : Does Tryz.prog 31 [.agg #[.int .i64 pr, .int .i64 st, .slice A l.length q]] [ros Ins.rc A l] (fun v _ => v = .int .i64 (verifyV pr st l)) := by
 rw [← verify_eq]; exact rverify_fn pr st A q l
theorem spoils_fn (p : Pl) (hp : p.Ok) (w : Nat) (hw : w < 256) (As : Option Addr) (qs : Nat) (sl : List Sp) (hsl : ∀ e ∈ sl, (e.t < 256 ∧ e.f < 256) ∧ -2147483648 ≤ e.v ∧ e.v ≤ 2147483647) :
    Does Tryz.prog 8 [.agg #[.int .u8 ((p.flags : Nat) : Int), .slice p.Al p.links.length p.ql, .slice p.Ac p.comps.length p.qc], .int .u8 ((w : Nat) : Int), .slice As sl.length qs] [glc, tabC, all p.kids, ros Sp.cells As sl] (fun v _ => v = .bool true) := by
 refine Does.enter Tryz.func8 rfl Tryz.ntmps8 rfl (fun w0 => ?_)
 refine To.s (To.g ?_)
 refine To.boxed rfl rfl rfl rfl rfl rfl (fun b3 => ?_)
 refine To.a (To.n (To.t (To.s (To.s (To.g ?_)))))
 refine To.cV rfl rfl rfl (Ent.fn rfl rfl ca12) (awake_fn) rfl (oks_gl 1 rfl) ?_
 refine To.nt ?_
 refine To.n (To.t ?_)
 refine To.condF rfl ?_
 refine To.sp (To.t (To.s (To.g ?_)))
 refine To.r (Rd.lS (i := 0) rfl rfl r25 rfl box_whole rfl) ?_
 refine To.m ?_
 refine To.m ?_
 refine To.cl [3, 3] rfl rfl rfl (Ent.fn rfl rfl ca18) rfl (spoiled_fn p hp w hw As qs sl hsl) ?_
 rintro _ _ ⟨F, np, st, Au, qu, l, rfl, rfl, hG, hR⟩
 refine To.alloc rfl rfl rfl rfl z37 (fun b7 => ?_)
 refine To.u (Up.storeS (i := 0) rfl rfl rfl r37 rfl rfl rfl (bta rfl)) ?_
 refine To.n (To.t (To.s ?_))
 refine To.flow [box b7 [nv np, .int .i64 st, .slice Au l.length qu] 37] [⟨0, [], 0⟩, ⟨3, [], 0⟩, ⟨1, [], 4⟩, ⟨2, [1], 3⟩, ⟨4, [1], 3⟩, ⟨5, [1], 0⟩, ⟨6, [1], 0⟩] mixed (by kernel_rfl) (ocs (oca 0 rfl) (ocn _)) ?_
 refine W.f rfl (Rd.lS (i := 0) rfl rfl r37 rfl box_whole rfl) ?_
 refine W.f rfl (Rd.lS (i := 0) rfl rfl r37 rfl box_whole rfl) ?_
 refine W.callM rfl rfl rfl rfl rfl (Ent.fn rfl rfl ca17) (back_fn ((np : Nat) : Int) st Au qu l (by have := hR.len; omega) hR.op) rfl (ocs (oks_row 1 rfl) (ocn _)) ?_
 rintro _ _ ⟨Bk, rk, rfl, rfl⟩
 refine ⟨rfl, ?_⟩
 refine W.callQ rfl rfl rfl rfl (Ent.fn rfl rfl ca30) (verify_fn ((np : Nat) : Int) st Bk rk l) rfl (ocs (oks_row 0 rfl) (ocs (oca 5 rfl) (ocn _))) ?_
 refine W.callQ rfl rfl rfl rfl (Ent.fn rfl rfl ca31) (rv_fn ((np : Nat) : Int) st Au qu l) rfl (ocs (oks_row 2 rfl) (ocn _)) ?_
 refine W.f rfl (Rd.eql rfl rfl rfl) ?_
 refine W.f rfl (Rd.assign rfl rfl) ?_
 refine W.fin ?_
 refine To.t (To.rt (To.del5 (To.del4 (To.del3 (To.del2 (To.del1 (To.del0 ?_)))))))
 refine To.end1 (.inl rfl) Tryz.results8 rfl ?_
 exact congrArg Value.bool (decide_eq_true rfl)
end Go.Proofs.YtllalpnmagpkfaaGreatDoor

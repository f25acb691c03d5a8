/- CodeUnits: the walk of the law. Own text (walks printed by sx.py). -/
import Derived.Test.YtfkmjkooemjekaaGreatDoorL1
import Derived.Test.YtfkmjkooemjekaaGreatDoorC10
import Derived.Test.YtfkmjkooemjekaaGreatDoorA19
set_option linter.unusedVariables false
set_option linter.unusedSimpArgs false
namespace Go.Proofs.YtfkmjkooemjekaaGreatDoor
open Go.RowKit Go.Flow Go.Mem Go.Sep
theorem rv_fn (pr st : Int) (A : Option Addr) (q : Nat) (l : List Ins) : Does Tryz.prog 9 [.agg #[.int .i64 pr, .int .i64 st, .slice A l.length q]] [ros Ins.rcells A l] (fun v _ => v = .int .i64 (verifyV pr st l)) := by
  rw [← verify_eq]; exact rverify_fn pr st A q l
set_option maxHeartbeats 2000000 in
set_option maxRecDepth 100000 in
theorem vlim_fn (pr st : Int) (A : Option Addr) (n q : Nat) (h : 64 < st ∨ 4000 < n) :
    Does Tryz.prog 8 [.agg #[.int .i64 pr, .int .i64 st, .slice A n q]] [] (fun v _ => v = .int .i64 3) := by
  refine Does.enter Tryz.func8 rfl Tryz.ntmps8 rfl (fun w0 => ?_)
  refine To.seq (To.reg ?_)
  refine To.boxed rfl rfl rfl rfl rfl rfl (fun b1 => ?_)
  refine To.a (To.nil (To.thenN (To.seq (To.seq (To.reg ?_)))))
  refine To.f fl32_1 ?_
  refine To.lo 0 c3 ?_
  refine To.r (Rd.gtr rfl rfl rfl) ?_
  refine To.rdP rfl rfl rfl (Rd.move rfl rfl) (fun g10 => ?_) (fun g10 => ?_)
  ·
   refine To.k ?_
   refine To.k ?_
   refine To.k ?_
   refine To.k ?_
   refine To.r (Rd.pickT rfl rfl rfl) ?_
   refine To.nil (To.thenN ?_)
   refine To.condT rfl ?_
   refine To.seq (To.reg (To.a (To.nil (To.thenN (To.ret (To.thenR ?_))))))
   refine To.end1 (.inl rfl) Tryz.results8 rfl ?_
   rfl
  refine To.f fl32_2 ?_
  refine To.lo 0 c30 ?_
  refine To.r (Rd.len rfl rfl Tryz.underlying30) ?_
  refine To.r (Rd.gtr rfl rfl rfl) ?_
  refine To.r (Rd.pickF rfl rfl rfl) ?_
  refine To.nil (To.thenN ?_)
  refine To.condP rfl (fun c15 => ?_) (fun c15 => ?_)
  ·
   refine To.seq (To.reg (To.a (To.nil (To.thenN (To.ret (To.thenR ?_))))))
   refine To.end1 (.inl rfl) Tryz.results8 rfl ?_
   rfl
  exfalso; omega
set_option maxHeartbeats 2000000 in
set_option maxRecDepth 100000 in
theorem units_fn (p s : Nat) (A : Option Addr) (q : Nat) (l : List Sp) (hp : p < 256) (hs : s < 256) (hl : ∀ e ∈ l, (e.t < 256 ∧ e.f < 256) ∧ -2147483648 ≤ e.v ∧ e.v ≤ 2147483647) :
    Does Tryz.prog 3 [.agg #[.int .u8 ((p : Nat) : Int), .int .u8 ((s : Nat) : Int), .slice A l.length q]] [glc, tabC, ros Sp.cells A l] (fun v _ => v = .bool true) := by
  refine Does.enter Tryz.func3 rfl Tryz.ntmps3 rfl (fun w0 => ?_)
  refine To.seq (To.reg ?_)
  refine To.boxed rfl rfl rfl rfl rfl rfl (fun b1 => ?_)
  refine To.a (To.nil (To.thenN (To.seq (To.seq (To.reg ?_)))))
  refine To.callV rfl rfl rfl (Ent.fn rfl rfl ca5) (awake_fn) rfl (oks_gl 1 rfl) ?_
  refine To.r (Rd.not rfl rfl) ?_
  refine To.nil (To.thenN ?_)
  refine To.condF rfl ?_
  refine To.skip (To.thenN (To.seq (To.reg ?_)))
  refine To.r (Rd.loadS (i := 0) rfl rfl r24 rfl box_whole rfl) ?_
  refine To.callQ rfl rfl rfl (Ent.fn rfl rfl ca6) (unit_fn p s A q l hp hs hl) rfl (oks_cons (oks_at 3 rfl) (oks_nil _)) ?_
  rintro _ _ ⟨l2, B, q2, rfl, rfl, hlen, hop⟩
  refine ⟨rfl, ?_⟩
  refine To.alloc rfl rfl rfl rfl z28 (fun b3 => ?_)
  refine To.u (Up.storeS (i := 0) rfl rfl rfl r28 rfl rfl rfl (box_takesAll rfl)) ?_
  refine To.nil (To.thenN (To.seq ?_))
  refine To.only [1, 0, 0, 0, 0, 0] rfl ?_
  refine To.layRow ?_
  refine To.reg ?_
  refine To.r (Rd.loadS (i := 1) rfl rfl r28 rfl box_whole rfl) ?_
  refine To.callQ rfl rfl rfl (Ent.fn rfl rfl ca7) (back_fn ((p % 6 : Nat) : Int) ((s % 8 : Nat) : Int) B q2 l2 (by omega) hop) rfl (oks_cons (oks_at 0 rfl) (oks_nil _)) ?_
  rintro _ _ ⟨B1, r1, rfl, rfl⟩
  refine ⟨rfl, ?_⟩
  refine To.alloc rfl rfl rfl rfl z32 (fun b4 => ?_)
  refine To.u (Up.storeS (i := 0) rfl rfl rfl r32 rfl rfl rfl (box_takesAll rfl)) ?_
  refine To.nil (To.thenN (To.seq (To.reg ?_)))
  refine To.f fl32_2 ?_
  refine To.lo 0 c30 ?_
  refine To.ge rfl rfl rfl (Ge.appendZ (m := 4001) (i := 1) rfl s30 Tryz.underlying3 rfl rfl rfl (by omega) (by simp only [maxLen]; omega) (by omega)) ?_
  rintro _ _ ⟨Az, qz, ys, rfl, rfl⟩
  refine To.f fl32_2 ?_
  refine To.u (Up.store (i := 0) rfl rfl rfl c30 rfl rfl (box_takes1 rfl)) ?_
  refine To.nil (To.thenN (To.seq (To.reg ?_)))
  refine To.r (Rd.loadS (i := 3) rfl rfl r28 rfl box_whole rfl) ?_
  refine To.callQ rfl rfl rfl (Ent.fn rfl rfl ca7) (back_fn ((p % 6 : Nat) : Int) ((s % 8 : Nat) : Int) B q2 l2 (by omega) hop) rfl (oks_cons (oks_at 2 rfl) (oks_nil _)) ?_
  rintro _ _ ⟨B2, r2, rfl, rfl⟩
  refine ⟨rfl, ?_⟩
  refine To.alloc rfl rfl rfl rfl z32 (fun b5 => ?_)
  refine To.u (Up.storeS (i := 0) rfl rfl rfl r32 rfl rfl rfl (box_takesAll rfl)) ?_
  refine To.nil (To.thenN (To.seq (To.reg ?_)))
  refine To.f fl32_1 ?_
  refine To.u (Up.store (i := 0) rfl rfl rfl c3 rfl rfl (box_takes1 rfl)) ?_
  refine To.nil (To.thenN (To.seq ?_))
  refine To.flow [box b3 [.int .i64 ((p % 6 : Nat) : Int), .int .i64 ((s % 8 : Nat) : Int), .slice B l2.length q2] 28, box b4 [.int .i64 ((p % 6 : Nat) : Int), .int .i64 ((s % 8 : Nat) : Int), .slice Az (l2.length + 4001) qz] 32, box b5 [.int .i64 ((p % 6 : Nat) : Int), .int .i64 65, .slice B2 l2.length r2] 32] [⟨0, [], 0⟩, ⟨3, [], 0⟩, ⟨1, [], 4⟩, ⟨2, [1], 3⟩, ⟨4, [1], 3⟩, ⟨5, [1], 0⟩, ⟨6, [1], 0⟩, ⟨7, [1], 0⟩, ⟨8, [1], 3⟩, ⟨9, [1], 0⟩, ⟨10, [1], 0⟩, ⟨11, [1], 0⟩, ⟨12, [1], 0⟩, ⟨13, [1], 3⟩, ⟨14, [1], 0⟩, ⟨15, [1], 0⟩, ⟨16, [1], 0⟩] mixed (by kernel_rfl) (oks_cons (oks_at 5 rfl) (oks_cons (oks_at 2 rfl) (oks_cons (oks_at 0 rfl) (oks_nil _)))) ?_
  refine FlowS.f rfl (Rd.loadS (i := 0) rfl rfl r28 rfl box_whole rfl) ?_
  refine FlowS.f rfl (Rd.loadS (i := 0) rfl rfl r28 rfl box_whole rfl) ?_
  refine FlowS.callM rfl rfl rfl rfl rfl (Ent.fn rfl rfl ca7) (back_fn ((p % 6 : Nat) : Int) ((s % 8 : Nat) : Int) B q2 l2 (by omega) hop) rfl (oks_cons (oks_at 4 rfl) (oks_nil _)) ?_
  rintro _ _ ⟨B3, r3, rfl, rfl⟩
  refine ⟨rfl, ?_⟩
  refine FlowS.callQ rfl rfl rfl rfl (Ent.fn rfl rfl ca8) (verify_fn ((p % 6 : Nat) : Int) ((s % 8 : Nat) : Int) B3 r3 l2) rfl (oks_cons (oks_row 0 rfl) (oks_cons (oks_at 9 rfl) (oks_nil _))) ?_
  refine FlowS.callQ rfl rfl rfl rfl (Ent.fn rfl rfl ca9) (rv_fn ((p % 6 : Nat) : Int) ((s % 8 : Nat) : Int) B q2 l2) rfl (oks_cons (oks_at 5 rfl) (oks_nil _)) ?_
  refine FlowS.f rfl (Rd.eql rfl rfl rfl) ?_
  refine FlowS.rdP rfl rfl rfl rfl (Rd.move rfl rfl) (fun g25 => ?_) (fun g25 => ?_)
  ·
   refine FlowS.f rfl (Rd.loadS (i := 1) rfl rfl r32 rfl box_whole rfl) ?_
   refine FlowS.callQ rfl rfl rfl rfl (Ent.fn rfl rfl ca8) (vlim_fn ((p % 6 : Nat) : Int) ((s % 8 : Nat) : Int) Az (l2.length + 4001) qz (by omega)) rfl (oks_nil _) ?_
   refine FlowS.f rfl (Rd.eql rfl rfl rfl) ?_
   refine FlowS.f rfl (Rd.pickT rfl rfl rfl) ?_
   refine FlowS.mo ?_
   refine FlowS.f rfl (Rd.loadS (i := 2) rfl rfl r32 rfl box_whole rfl) ?_
   refine FlowS.callQ rfl rfl rfl rfl (Ent.fn rfl rfl ca8) (vlim_fn ((p % 6 : Nat) : Int) 65 B2 l2.length r2 (by omega)) rfl (oks_nil _) ?_
   refine FlowS.f rfl (Rd.eql rfl rfl rfl) ?_
   refine FlowS.f rfl (Rd.pickT rfl rfl rfl) ?_
   refine FlowS.f rfl (Rd.assign rfl rfl) ?_
   refine FlowS.fin ?_
   refine To.thenN (To.ret ?_)
   refine To.only [] rfl ?_
   refine To.end1 (.inl rfl) Tryz.results3 rfl ?_
   rfl
  exact absurd rfl g25
end Go.Proofs.YtfkmjkooemjekaaGreatDoor

/- CodeReads: the walk of the law. Own text (walks printed by sx.py). -/
import Derived.Test.YtfkmjkooemjekaaGreatDoorL1
import Derived.Test.YtfkmjkooemjekaaGreatDoorD9
import Derived.Test.YtfkmjkooemjekaaGreatDoorA19
set_option linter.unusedVariables false
set_option linter.unusedSimpArgs false
namespace Go.Proofs.YtfkmjkooemjekaaGreatDoor
open Go.RowKit Go.Flow Go.Mem Go.Sep
theorem instr_op {s s' : List Nat} {x : Ins} (h : instrV s = some (x, s')) : x.op < 256 := by
  rw [instr_eq] at h
  split at h
  · rename_i hc
    simp only [Option.some.injEq, Prod.mk.injEq] at h
    rw [← h.1]; show (cB s).1 < 256; omega
  · cases h
theorem instrs_ok : ∀ (n : Nat) (s r : List Nat) (l : List Ins), instrsV n s = some (l, r) → l.length = n ∧ ∀ x ∈ l, x.op < 256
  | 0, s, r, l, h => by
    simp only [instrsV, Option.some.injEq, Prod.mk.injEq] at h
    rw [← h.1]; exact ⟨rfl, fun x hx => by cases hx⟩
  | n + 1, s, r, l, h => by
    rw [instrsV] at h
    cases hi : instrV s with
    | none => rw [hi] at h; cases h
    | some y =>
      obtain ⟨y1, y2⟩ := y
      rw [hi] at h
      cases hr : instrsV n y2 with
      | none => rw [show ((some (y1, y2) : Option (Ins × List Nat)).bind fun x => (instrsV n x.2).map fun z => (x.1 :: z.1, z.2)) = (instrsV n y2).map fun z => (y1 :: z.1, z.2) from rfl, hr] at h; cases h
      | some z =>
        obtain ⟨z1, z2⟩ := z
        rw [show ((some (y1, y2) : Option (Ins × List Nat)).bind fun x => (instrsV n x.2).map fun z => (x.1 :: z.1, z.2)) = (instrsV n y2).map fun z => (y1 :: z.1, z.2) from rfl, hr] at h
        simp only [Option.map_some, Option.some.injEq, Prod.mk.injEq] at h
        have ih := instrs_ok n y2 z2 z1 hr
        rw [← h.1]
        refine ⟨by rw [List.length_cons, ih.1], fun x hx => ?_⟩
        rcases List.mem_cons.1 hx with rfl | hx
        · exact instr_op hi
        · exact ih.2 x hx
theorem readV_l (p : List Nat) : (readV p).1.2.2.length ≤ 4000 ∧ ∀ x ∈ (readV p).1.2.2, x.op < 256 := by
  cases hh : headV p with
  | none => rw [readV_head hh]; exact ⟨Nat.zero_le _, fun x hx => by cases hx⟩
  | some y =>
    obtain ⟨a, b, n, s⟩ := y
    by_cases hl : 255 < a ∨ 255 < b ∨ 4000 < n
    · rw [readV_limit hh hl]; exact ⟨Nat.zero_le _, fun x hx => by cases hx⟩
    · cases hi : instrsV n s with
      | none => rw [readV_bad hh hl hi]; exact ⟨Nat.zero_le _, fun x hx => by cases hx⟩
      | some z =>
        obtain ⟨l, r⟩ := z
        rw [readV_ok hh hl hi]
        have := instrs_ok n s r l hi
        exact ⟨by show l.length ≤ 4000; omega, this.2⟩
theorem Rd.eqlStr0 {P : Program} {o : Oper} {ρ : Slots} {Γ : List Chunk} {x y : Operand} {t t' : TypeId} {s : ByteArray} (ho : o.op = .binOp .eql t x y t') (ht : P.underlying t = some .string) (hx : ev ρ x = some (.string s)) (hy : ev ρ y = some (.string s)) : Rd P o ρ Γ (.bool true) := Rd.bin ho hx hy fun w => by
  simp [eqGuard, binOp, run_underlying ht, Op.equal, Op.stringOp]
set_option maxHeartbeats 2000000 in
set_option maxRecDepth 100000 in
theorem reads_fn (A : Option Addr) (q : Nat) (p : List Nat) (hl : p.length ≤ 140737488355327) (hok : okS p) (hc : p.length ≤ q) :
    Does Tryz.prog 4 [.slice A p.length q] [glc, ros encY A p] (fun v _ => v = .bool true) := by
  refine Does.enter Tryz.func4 rfl Tryz.ntmps4 rfl (fun w0 => ?_)
  refine To.seq (To.reg (To.a (To.nil (To.thenN (To.seq (To.seq (To.reg ?_)))))))
  refine To.callV rfl rfl rfl (Ent.fn rfl rfl ca5) (awake_fn) rfl (oks_gl 0 rfl) ?_
  refine To.r (Rd.not rfl rfl) ?_
  refine To.nil (To.thenN ?_)
  refine To.condF rfl ?_
  refine To.skip (To.thenN (To.seq (To.reg (To.m ?_))))
  refine To.r (Rd.bytesStr rfl Tryz.underlying38 Tryz.underlying5 Tryz.underlying9 rfl (oks_at 1 rfl)) ?_
  refine To.a (To.nil (To.thenN (To.seq (To.reg ?_))))
  refine To.m ?_
  refine To.callQ rfl rfl rfl (Ent.fn rfl rfl ca10) (read_fn A q p hl hok) rfl (oks_cons (oks_at 1 rfl) (oks_nil _)) ?_
  rintro _ _ ⟨B1, r1, rfl, rfl⟩
  refine ⟨rfl, ?_⟩
  refine To.m ?_
  refine To.r (Rd.extract rfl rfl rfl) ?_
  refine To.r (Rd.extract rfl rfl rfl) ?_
  refine To.r (Rd.extract rfl rfl rfl) ?_
  refine To.alloc rfl rfl rfl rfl z32 (fun b4 => ?_)
  refine To.u (Up.storeS (i := 0) rfl rfl rfl r32 rfl rfl rfl (box_takesAll rfl)) ?_
  refine To.a ?_
  refine To.a (To.nil (To.thenN (To.seq (To.reg ?_))))
  refine To.m ?_
  refine To.callQ rfl rfl rfl (Ent.fn rfl rfl ca11) (rread_fn A q p hl hok hc) rfl (oks_cons (oks_at 3 rfl) (oks_nil _)) ?_
  rintro _ _ ⟨B2, r2, rfl, rfl⟩
  refine ⟨rfl, ?_⟩
  refine To.m ?_
  refine To.r (Rd.extract rfl rfl rfl) ?_
  refine To.r (Rd.extract rfl rfl rfl) ?_
  refine To.r (Rd.extract rfl rfl rfl) ?_
  refine To.alloc rfl rfl rfl rfl z28 (fun b7 => ?_)
  refine To.u (Up.storeS (i := 0) rfl rfl rfl r28 rfl rfl rfl (box_takesAll rfl)) ?_
  refine To.a ?_
  refine To.a (To.nil (To.thenN (To.seq ?_)))
  refine To.flow [ros encY A p, box b4 [.int .i64 (((readV p).1.1 : Nat) : Int), .int .i64 (((readV p).1.2.1 : Nat) : Int), .slice B1 ((readV p).1.2.2.length) r1] 32, box b7 [.int .i64 (((readV p).1.1 : Nat) : Int), .int .i64 (((readV p).1.2.1 : Nat) : Int), .slice B2 ((readV p).1.2.2.length) r2] 28] [⟨0, [], 0⟩, ⟨1, [], 0⟩, ⟨2, [], 0⟩, ⟨3, [], 0⟩, ⟨4, [], 0⟩, ⟨5, [], 0⟩, ⟨6, [], 0⟩, ⟨7, [], 0⟩, ⟨8, [], 0⟩, ⟨9, [], 0⟩, ⟨10, [], 0⟩, ⟨11, [], 0⟩, ⟨12, [], 0⟩, ⟨13, [], 0⟩, ⟨14, [], 0⟩, ⟨15, [], 0⟩, ⟨16, [], 0⟩, ⟨17, [], 4⟩, ⟨18, [17], 3⟩, ⟨19, [17], 0⟩, ⟨20, [17], 0⟩] mixed (by kernel_rfl) (oks_cons (oks_at 5 rfl) (oks_cons (oks_at 2 rfl) (oks_cons (oks_at 0 rfl) (oks_nil _)))) ?_
  refine FlowS.mo ?_
  refine FlowS.f rfl (Rd.bytesStr rfl Tryz.underlying38 Tryz.underlying5 Tryz.underlying9 rfl (oks_at 0 rfl)) ?_
  refine FlowS.mo ?_
  refine FlowS.f rfl (Rd.eqlStr0 rfl Tryz.underlying9 rfl rfl) ?_
  refine FlowS.mo ?_
  refine FlowS.mo ?_
  refine FlowS.mo ?_
  refine FlowS.f rfl (Rd.eql rfl rfl rfl) ?_
  refine FlowS.f rfl (Rd.pickT rfl rfl rfl) ?_
  refine FlowS.rdP rfl rfl rfl rfl (Rd.move rfl rfl) (fun g35 => ?_) (fun g35 => ?_)
  ·
   refine FlowS.mo ?_
   refine FlowS.mo ?_
   refine FlowS.f rfl (Rd.eql rfl rfl rfl) ?_
   refine FlowS.f rfl (Rd.pickT rfl rfl rfl) ?_
   refine FlowS.rdP rfl rfl rfl rfl (Rd.move rfl rfl) (fun g40 => ?_) (fun g40 => ?_)
   ·
    refine FlowS.f rfl (Rd.loadS (i := 1) rfl rfl r32 rfl box_whole rfl) ?_
    refine FlowS.f rfl (Rd.loadS (i := 2) rfl rfl r28 rfl box_whole rfl) ?_
    refine FlowS.callMG rfl rfl rfl rfl rfl (Ent.fn rfl rfl ca7) (back_fn (((readV p).1.1 : Nat) : Int) (((readV p).1.2.1 : Nat) : Int) B2 r2 (readV p).1.2.2 (by have := (readV_l p).1; omega) (readV_l p).2) rfl (oks_cons (oks_row 1 rfl) (oks_nil _)) ?_
    rintro _ _ ⟨B3, r3, rfl, rfl⟩
    refine ⟨rfl, ?_⟩
    refine FlowS.callQ rfl rfl rfl rfl (Ent.fn rfl rfl ca12) (same_fn (((readV p).1.1 : Nat) : Int) (((readV p).1.2.1 : Nat) : Int) B1 B3 r1 r3 (readV p).1.2.2 (by have := (readV_l p).1; omega)) rfl (oks_cons (oks_row 4 rfl) (oks_cons (oks_row 0 rfl) (oks_nil _))) ?_
    refine FlowS.f rfl (Rd.pickT rfl rfl rfl) ?_
    refine FlowS.f rfl (Rd.assign rfl rfl) ?_
    refine FlowS.fin ?_
    refine To.thenN (To.ret ?_)
    refine To.only [] rfl ?_
    refine To.end1 (.inl rfl) Tryz.results4 rfl ?_
    rfl
   exact absurd rfl g40
  exact absurd rfl g35
end Go.Proofs.YtfkmjkooemjekaaGreatDoor

/- The reference's Count. Own text (walks printed by sx.py). -/
import Derived.Test.YtneimfacccgaeaaV23
namespace Go.Proofs.Ytneimfacccgaeaa
open Go.RowKit Go.Flow Go.Mem Go.Sep
theorem dpJ_self (l : List Ev) (s : Nat) : ∀ j, (dpJ l s j)[s]? = (dpS l s)[s]?
  | 0 => rfl
  | j + 1 => by
    rw [dpJ_succ]
    unfold stepJ
    split
    · rw [set_ne (by have := Nat.two_pow_pos j; omega)]; exact dpJ_self l s j
    · exact dpJ_self l s j
theorem bit0 (s j : Nat) : decide (((s / 2 ^ j % 2 : Nat) : Int) = 0) = !s.testBit j := by
  rw [Nat.testBit_eq_decide_div_mod_eq]
  by_cases h : s / 2 ^ j % 2 = 1
  · rw [decide_eq_true h, decide_eq_false (by omega)]; rfl
  · rw [decide_eq_false h, decide_eq_true (by omega)]; rfl
theorem bit1 (s j : Nat) : decide (((s / 2 ^ j % 2 : Nat) : Int) = 1) = s.testBit j := by
  rw [Nat.testBit_eq_decide_div_mod_eq]
  exact decide_eq_decide.2 (by omega)
def okI (l : List Ev) (s j i : Nat) : Bool := !s.testBit j && (List.range i).all fun i => s.testBit i || !depAt l i j
theorem okI_succ (l : List Ev) (s j i : Nat) : okI l s j (i + 1) = (okI l s j i && (s.testBit i || !depAt l i j)) := by
  unfold okI; rw [List.range_succ, List.all_append]; simp [Bool.and_assoc]
theorem okI_no {l : List Ev} {s j : Nat} : ∀ {i k : Nat}, i ≤ k → okI l s j i = false → okI l s j k = false := fun {i k} h h0 => by
  induction k with
  | zero => obtain rfl : i = 0 := by omega
            exact h0
  | succ k ih =>
    by_cases e : i = k + 1
    · rw [← e]; exact h0
    · rw [okI_succ, ih (by omega)]; rfl
set_option maxHeartbeats 2000000 in
set_option maxRecDepth 100000 in
theorem rcount_fn (Al : Option Addr) (cl : Nat) (l : List Ev) (h16 : l.length ≤ 16) :
    Does Try.prog 17 [.slice Al l.length cl] [ros Ev.cells Al l] (fun v _ => v = .int .u64 ((cntV l : Nat) : Int)) := by
  have hpw : 2 ^ l.length ≤ 65536 := pow16 h16
  have hpos : 0 < 2 ^ l.length := Nat.two_pow_pos _
  refine Does.enter Try.func17 rfl Try.ntmps17 rfl (fun w0 => ?_)
  refine To.seq ?_
  refine To.reg ?_
  refine To.rd rfl rfl rfl (Rd.assign rfl rfl) ?_
  refine To.nil ?_
  refine To.thenN ?_
  refine To.seq ?_
  refine To.reg ?_
  refine To.rd rfl rfl rfl (Rd.move rfl rfl) ?_
  refine To.rd rfl rfl rfl (Rd.len rfl rfl Try.underlying22) ?_
  refine To.rd rfl rfl rfl (Rd.shl1 (j := l.length) rfl rfl rfl (by omega)) ?_
  refine To.mk rfl rfl rfl (Mk.makeRows (enc := encN) (z := 0) (n := (2 ^ l.length)) rfl rfl s64 rfl rfl (by omega) (by simp only [maxLen]; omega)) ?_
  rintro _ _ ⟨b11, rfl, rfl⟩
  refine To.as [rows encN 30 1 (some ⟨b11, 0, none⟩) (2 ^ l.length) (List.replicate (2 ^ l.length) 0), ros Ev.cells Al l] rfl ?_
  refine To.rd rfl rfl rfl (Rd.assign rfl rfl) ?_
  refine To.nil ?_
  refine To.thenN ?_
  refine To.seq ?_
  have h00 : (List.replicate (2 ^ l.length) 0)[0]? = some 0 := rep_at hpos
  have hrl : (List.replicate (2 ^ l.length) 0).length = 2 ^ l.length := List.length_replicate
  refine To.reg ?_
  refine To.rd rfl rfl rfl (Rd.move rfl rfl) ?_
  refine To.rd rfl rfl rfl (Rd.indexRows (i := 0) (j := 0) rfl rfl rfl s64 rfl h00) ?_
  refine To.up rfl rfl (Up.store (i := 0) rfl rfl rfl c30 rfl rfl (rows_takes encN_ok (y := 1) (by decide) (by omega))) ?_
  refine To.nil ?_
  refine To.thenN ?_
  refine To.seq ?_
  refine To.seq ?_
  refine To.reg ?_
  refine To.rd rfl rfl rfl (Rd.move rfl rfl) ?_
  refine To.rd rfl rfl rfl (Rd.len rfl rfl Try.underlying64) ?_
  refine To.rd rfl rfl rfl (Rd.move rfl rfl) ?_
  refine To.nil ?_
  refine To.thenN ?_
  refine To.block ?_
  refine To.sub [(0, .slice Al l.length cl), (3, .slice (some ⟨b11, 0, none⟩) ((dpS l 0).length) (2 ^ l.length)), (15, .int .i64 (((dpS l 0).length : Nat) : Int)), (16, .int .i64 ((0 : Nat) : Int))] ⟨rfl, by rw [show (dpS l 0).length = (List.replicate (2 ^ l.length) 0).length by rw [lenS, List.length_replicate]]; rfl, by rw [show (dpS l 0).length = (List.replicate (2 ^ l.length) 0).length by rw [lenS, List.length_replicate]]; rfl, rfl, trivial⟩ ?_
  refine To.only [0, 0] rfl ?_
  refine To.as [rows encN 30 1 (some ⟨b11, 0, none⟩) (2 ^ l.length) (dpS l 0), ros Ev.cells Al l] rfl ?_
  refine To.loop (fun mz ρ Γ => ∃ (s : Nat), ρ = [(0, .slice Al l.length cl), (3, .slice (some ⟨b11, 0, none⟩) ((dpS l s).length) (2 ^ l.length)), (15, .int .i64 (((dpS l s).length : Nat) : Int)), (16, .int .i64 ((s : Nat) : Int))] ∧ Γ = [rows encN 30 1 (some ⟨b11, 0, none⟩) (2 ^ l.length) (dpS l s), ros Ev.cells Al l] ∧ mz = 2 ^ l.length - s ∧ (s ≤ 2 ^ l.length)) (2 ^ l.length - 0) ⟨0, rfl, rfl, rfl, (Nat.zero_le _)⟩ ?_
  rintro mz _ _ ⟨s, rfl, rfl, rfl, hs⟩
  have hlS := lenS l s
  refine To.seq ?_
  refine To.reg ?_
  refine To.rd rfl rfl rfl (Rd.lss rfl rfl rfl) ?_
  refine To.nil ?_
  refine To.thenN ?_
  refine To.seq ?_
  refine To.condP rfl (fun c17 => ?_) (fun c17 => ?_)
  ·
    obtain ⟨c, hc⟩ : ∃ z0, (dpS l s)[s]? = some z0 := ⟨(dpS l s)[s]'(by omega), List.getElem?_eq_getElem _⟩
    have hs2 : s < 2 ^ l.length := by rw [← lenS l s]; omega
    refine To.skip ?_
    refine To.thenN ?_
    refine To.seq ?_
    refine To.block ?_
    refine To.seq ?_
    refine To.reg ?_
    refine To.rd rfl rfl rfl (Rd.move rfl rfl) ?_
    refine To.rd rfl rfl rfl (Rd.assign rfl rfl) ?_
    refine To.nil ?_
    refine To.thenN ?_
    refine To.seq ?_
    refine To.seq ?_
    refine To.reg ?_
    refine To.rd rfl rfl rfl (Rd.move rfl rfl) ?_
    refine To.rd rfl rfl rfl (Rd.move rfl rfl) ?_
    refine To.rd rfl rfl rfl (Rd.indexRows (i := 0) (j := s) rfl rfl rfl s64 rfl hc) ?_
    refine To.rd rfl rfl rfl (Rd.load (i := 0) rfl rfl c30 rfl (gives_1 (rows_gives encN_ok hc) rfl)) ?_
    refine To.rd rfl rfl rfl (Rd.eql rfl rfl rfl) ?_
    refine To.nil ?_
    refine To.thenN ?_
    refine To.condP rfl (fun c23 => ?_) (fun c23 => ?_)
    ·
      refine To.exit ?_
      refine To.thenX ?_
      refine To.blockX ?_
      refine To.thenN ?_
      refine To.reg ?_
      refine To.rd rfl rfl rfl (Rd.inc rfl rfl rfl (by omega)) ?_
      refine To.rd rfl rfl rfl (Rd.move rfl rfl) ?_
      refine To.nil ?_
      refine To.thenN ?_
      obtain rfl : c = 0 := by omega
      have hsk := dpS_skip hc
      refine To.sub [(0, .slice Al l.length cl), (3, .slice (some ⟨b11, 0, none⟩) ((dpS l (s + 1)).length) (2 ^ l.length)), (15, .int .i64 (((dpS l (s + 1)).length : Nat) : Int)), (16, .int .i64 (((s + 1) : Nat) : Int))] ⟨rfl, by rw [show (dpS l (s + 1)).length = (dpS l s).length by simp only [lenS, lenJ]]; rfl, by rw [show (dpS l (s + 1)).length = (dpS l s).length by simp only [lenS, lenJ]]; rfl, rfl, trivial⟩ ?_
      refine To.only [0, 0] rfl ?_
      refine To.as [rows encN 30 1 (some ⟨b11, 0, none⟩) (2 ^ l.length) (dpS l (s + 1)), ros Ev.cells Al l] (by rw [hsk]) ?_
      refine To.again (2 ^ l.length - (s + 1)) (by omega) ⟨s + 1, rfl, rfl, rfl, (by omega)⟩
    ·
      refine To.skip ?_
      refine To.thenN ?_
      refine To.seq ?_
      refine To.reg ?_
      refine To.rd rfl rfl rfl (Rd.move rfl rfl) ?_
      refine To.rd rfl rfl rfl (Rd.len rfl rfl Try.underlying22) ?_
      refine To.rd rfl rfl rfl (Rd.move rfl rfl) ?_
      refine To.nil ?_
      refine To.thenN ?_
      refine To.block ?_
      refine To.sub [(0, .slice Al l.length cl), (3, .slice (some ⟨b11, 0, none⟩) ((dpJ l s 0).length) (2 ^ l.length)), (15, .int .i64 (((dpJ l s 0).length : Nat) : Int)), (16, .int .i64 ((s : Nat) : Int)), (4, .int .i64 ((s : Nat) : Int)), (25, .int .i64 ((l.length : Nat) : Int)), (26, .int .i64 ((0 : Nat) : Int))] ⟨rfl, rfl, rfl, rfl, rfl, rfl, rfl, trivial⟩ ?_
      refine To.only [0, 0] rfl ?_
      refine To.as [rows encN 30 1 (some ⟨b11, 0, none⟩) (2 ^ l.length) (dpJ l s 0), ros Ev.cells Al l] rfl ?_
      refine To.loop (fun mz ρ Γ => ∃ (j : Nat), ρ = [(0, .slice Al l.length cl), (3, .slice (some ⟨b11, 0, none⟩) ((dpJ l s j).length) (2 ^ l.length)), (15, .int .i64 (((dpJ l s j).length : Nat) : Int)), (16, .int .i64 ((s : Nat) : Int)), (4, .int .i64 ((s : Nat) : Int)), (25, .int .i64 ((l.length : Nat) : Int)), (26, .int .i64 ((j : Nat) : Int))] ∧ Γ = [rows encN 30 1 (some ⟨b11, 0, none⟩) (2 ^ l.length) (dpJ l s j), ros Ev.cells Al l] ∧ mz = l.length - j ∧ (j ≤ l.length)) (l.length - 0) ⟨0, rfl, rfl, rfl, (Nat.zero_le _)⟩ ?_
      rintro mz _ _ ⟨j, rfl, rfl, rfl, hj2⟩
      refine To.seq ?_
      refine To.reg ?_
      refine To.rd rfl rfl rfl (Rd.lss rfl rfl rfl) ?_
      refine To.nil ?_
      refine To.thenN ?_
      refine To.seq ?_
      refine To.condP rfl (fun c27 => ?_) (fun c27 => ?_)
      ·
        obtain ⟨y, hy⟩ : ∃ z0, l[j]? = some z0 := ⟨l[j]'(by omega), List.getElem?_eq_getElem _⟩
        have hpj : 2 ^ j ≤ 65536 := pow16 (by omega)
        refine To.skip ?_
        refine To.thenN ?_
        refine To.seq ?_
        refine To.block ?_
        refine To.seq ?_
        refine To.reg ?_
        refine To.rd rfl rfl rfl (Rd.move rfl rfl) ?_
        refine To.rd rfl rfl rfl (Rd.assign rfl rfl) ?_
        refine To.nil ?_
        refine To.thenN ?_
        refine To.seq ?_
        refine To.reg ?_
        refine To.rd rfl rfl rfl (Rd.move rfl rfl) ?_
        refine To.rd rfl rfl rfl (Rd.move rfl rfl) ?_
        refine To.rd rfl rfl rfl (Rd.shr64 (a := s) (j := j) rfl rfl rfl (by omega)) ?_
        refine To.rd rfl rfl rfl (Rd.remN (a := (s / 2 ^ j)) (b := 2) rfl rfl rfl (by omega)) ?_
        refine To.rd rfl rfl rfl (Rd.eql rfl rfl rfl) ?_
        refine To.rd rfl rfl rfl (Rd.assign rfl rfl) ?_
        refine To.nil ?_
        refine To.thenN ?_
        refine To.seq ?_
        refine To.seq ?_
        refine To.reg ?_
        refine To.rd rfl rfl rfl (Rd.assign rfl rfl) ?_
        refine To.nil ?_
        refine To.thenN ?_
        refine To.block ?_
        refine To.sub [(0, .slice Al l.length cl), (3, .slice (some ⟨b11, 0, none⟩) ((dpJ l s j).length) (2 ^ l.length)), (15, .int .i64 (((dpJ l s j).length : Nat) : Int)), (16, .int .i64 ((s : Nat) : Int)), (4, .int .i64 ((s : Nat) : Int)), (25, .int .i64 ((l.length : Nat) : Int)), (26, .int .i64 ((j : Nat) : Int)), (5, .int .i64 ((j : Nat) : Int)), (6, .bool (decide (((s / 2 ^ j % 2 : Nat) : Int) = 0))), (7, .int .i64 ((0 : Nat) : Int))] ⟨rfl, rfl, rfl, rfl, rfl, rfl, rfl, rfl, rfl, rfl, trivial⟩ ?_
        refine To.only [0, 0] rfl ?_
        refine To.loop (fun mz ρ Γ => ∃ (i : Nat) (ok : Bool), ρ = [(0, .slice Al l.length cl), (3, .slice (some ⟨b11, 0, none⟩) ((dpJ l s j).length) (2 ^ l.length)), (15, .int .i64 (((dpJ l s j).length : Nat) : Int)), (16, .int .i64 ((s : Nat) : Int)), (4, .int .i64 ((s : Nat) : Int)), (25, .int .i64 ((l.length : Nat) : Int)), (26, .int .i64 ((j : Nat) : Int)), (5, .int .i64 ((j : Nat) : Int)), (6, .bool ok), (7, .int .i64 ((i : Nat) : Int))] ∧ Γ = [rows encN 30 1 (some ⟨b11, 0, none⟩) (2 ^ l.length) (dpJ l s j), ros Ev.cells Al l] ∧ mz = j - i ∧ (i ≤ j) ∧ (ok = okI l s j i)) (j - 0) ⟨0, decide (((s / 2 ^ j % 2 : Nat) : Int) = 0), rfl, rfl, rfl, (Nat.zero_le _), (by rw [bit0]; simp [okI])⟩ ?_
        rintro mz _ _ ⟨i, ok, rfl, rfl, rfl, hi, hok⟩
        refine To.seq ?_
        refine To.seq ?_
        refine To.reg ?_
        refine To.rd rfl rfl rfl (Rd.move rfl rfl) ?_
        refine To.rd rfl rfl rfl (Rd.move rfl rfl) ?_
        refine To.rd rfl rfl rfl (Rd.lss rfl rfl rfl) ?_
        refine To.rdP rfl rfl rfl (Rd.move rfl rfl) (fun g37 => ?_) (fun g37 => ?_)
        ·
          refine To.rd rfl rfl rfl (Rd.move rfl rfl) ?_
          refine To.rd rfl rfl rfl (Rd.pickT rfl rfl rfl) ?_
          refine To.nil ?_
          refine To.thenN ?_
          refine To.cond rfl (fun c39 => ?_) (fun c39 => ?_)
          ·
            obtain ⟨x, hx⟩ : ∃ z0, l[i]? = some z0 := ⟨l[i]'(by omega), List.getElem?_eq_getElem _⟩
            refine To.skip ?_
            refine To.thenN ?_
            refine To.seq ?_
            refine To.block ?_
            refine To.flow [rows encN 30 1 (some ⟨b11, 0, none⟩) (2 ^ l.length) (dpJ l s j), ros Ev.cells Al l] [⟨0, [], 0⟩, ⟨1, [], 0⟩, ⟨2, [], 0⟩, ⟨3, [], 0⟩, ⟨4, [], 0⟩, ⟨5, [], 0⟩, ⟨6, [], 0⟩, ⟨7, [], 0⟩, ⟨10, [], 0⟩, ⟨11, [], 0⟩, ⟨8, [], 1⟩, ⟨9, [], 1⟩, ⟨12, [], 1⟩, ⟨13, [], 1⟩, ⟨14, [], 3⟩, ⟨15, [], 0⟩, ⟨16, [], 0⟩, ⟨17, [], 0⟩] mixed (by kernel_rfl) (oks_cons (oks_at 0 rfl) (oks_cons (oks_at 1 rfl) (oks_nil _))) ?_
            refine FlowS.free rfl rfl rfl rfl (Rd.move rfl rfl) ?_
            refine FlowS.free rfl rfl rfl rfl (Rd.move rfl rfl) ?_
            refine FlowS.free rfl rfl rfl rfl (Rd.shr64 (a := s) (j := i) rfl rfl rfl (by omega)) ?_
            refine FlowS.free rfl rfl rfl rfl (Rd.remN (a := (s / 2 ^ i)) (b := 2) rfl rfl rfl (by omega)) ?_
            refine FlowS.free rfl rfl rfl rfl (Rd.eql rfl rfl rfl) ?_
            refine FlowS.rdP rfl rfl rfl rfl (Rd.move rfl rfl) (fun g47 => ?_) (fun g47 => ?_)
            ·
              refine FlowS.skip (by decide) rfl rfl rfl rfl ?_
              refine FlowS.skip (by decide) rfl rfl rfl rfl ?_
              refine FlowS.skip (by decide) rfl rfl rfl rfl ?_
              refine FlowS.skip (by decide) rfl rfl rfl rfl ?_
              refine FlowS.skip (by decide) rfl rfl rfl rfl ?_
              refine FlowS.skip (by decide) rfl rfl rfl rfl ?_
              refine FlowS.skip (by decide) rfl rfl rfl rfl ?_
              refine FlowS.skip (by decide) rfl rfl rfl rfl ?_
              refine FlowS.skip (by decide) rfl rfl rfl rfl ?_
              refine FlowS.skip (by decide) rfl rfl rfl rfl ?_
              refine FlowS.free rfl rfl rfl rfl (Rd.pickT rfl rfl rfl) ?_
              refine FlowS.free rfl rfl rfl rfl (Rd.assign rfl rfl) ?_
              refine FlowS.fin ?_
              refine To.as [rows encN 30 1 (some ⟨b11, 0, none⟩) (2 ^ l.length) (dpJ l s j), ros Ev.cells Al l] rfl ?_
              refine To.sub [(0, .slice Al l.length cl), (3, .slice (some ⟨b11, 0, none⟩) ((dpJ l s j).length) (2 ^ l.length)), (15, .int .i64 (((dpJ l s j).length : Nat) : Int)), (16, .int .i64 ((s : Nat) : Int)), (4, .int .i64 ((s : Nat) : Int)), (25, .int .i64 ((l.length : Nat) : Int)), (26, .int .i64 ((j : Nat) : Int)), (5, .int .i64 ((j : Nat) : Int)), (6, .bool true), (7, .int .i64 ((i : Nat) : Int)), (39, .bool ok)] ⟨rfl, rfl, rfl, rfl, rfl, rfl, rfl, rfl, rfl, rfl, rfl, trivial⟩ ?_
              refine To.blockN ?_
              refine To.thenN ?_
              refine To.reg ?_
              refine To.rd rfl rfl rfl (Rd.move rfl rfl) ?_
              refine To.rd rfl rfl rfl (Rd.inc rfl rfl rfl (by omega)) ?_
              refine To.rd rfl rfl rfl (Rd.assign rfl rfl) ?_
              refine To.nil ?_
              refine To.thenN ?_
              refine To.sub [(0, .slice Al l.length cl), (3, .slice (some ⟨b11, 0, none⟩) ((dpJ l s j).length) (2 ^ l.length)), (15, .int .i64 (((dpJ l s j).length : Nat) : Int)), (16, .int .i64 ((s : Nat) : Int)), (4, .int .i64 ((s : Nat) : Int)), (25, .int .i64 ((l.length : Nat) : Int)), (26, .int .i64 ((j : Nat) : Int)), (5, .int .i64 ((j : Nat) : Int)), (6, .bool true), (7, .int .i64 (((i + 1) : Nat) : Int))] ⟨rfl, rfl, rfl, rfl, rfl, rfl, rfl, rfl, rfl, rfl, trivial⟩ ?_
              refine To.only [0, 0] rfl ?_
              refine To.again (j - (i + 1)) (by omega) ⟨i + 1, true, rfl, rfl, rfl, (by omega), (by rw [okI_succ, ← hok, c39, ← bit1, decide_eq_true g47]; rfl)⟩
            ·
              refine FlowS.free rfl rfl rfl rfl (Rd.move rfl rfl) ?_
              refine FlowS.free rfl rfl rfl rfl (Rd.move rfl rfl) ?_
              refine FlowS.free rfl rfl rfl rfl (Rd.move rfl rfl) ?_
              refine FlowS.free rfl rfl rfl rfl (Rd.move rfl rfl) ?_
              refine FlowS.rd rfl rfl rfl rfl (Rd.indexRos encE (i := 1) (j := i) rfl rfl rfl s22 rfl hx) ?_
              refine FlowS.rd rfl rfl rfl rfl (Rd.loadS (i := 1) rfl rfl r37 rfl (ros_gives encE hx) (encE.len _)) ?_
              refine FlowS.rd rfl rfl rfl rfl (Rd.indexRos encE (i := 1) (j := j) rfl rfl rfl s22 rfl hy) ?_
              refine FlowS.rd rfl rfl rfl rfl (Rd.loadS (i := 1) rfl rfl r37 rfl (ros_gives encE hy) (encE.len _)) ?_
              refine FlowS.callQ rfl rfl rfl rfl (Ent.fn rfl rfl ca23) (dependent_fn x y) rfl (oks_nil _) ?_
              refine FlowS.free rfl rfl rfl rfl (Rd.not rfl rfl) ?_
              refine FlowS.free rfl rfl rfl rfl (Rd.pickF rfl rfl rfl) ?_
              refine FlowS.free rfl rfl rfl rfl (Rd.assign rfl rfl) ?_
              refine FlowS.fin ?_
              refine To.as [rows encN 30 1 (some ⟨b11, 0, none⟩) (2 ^ l.length) (dpJ l s j), ros Ev.cells Al l] rfl ?_
              refine To.sub [(0, .slice Al l.length cl), (3, .slice (some ⟨b11, 0, none⟩) ((dpJ l s j).length) (2 ^ l.length)), (15, .int .i64 (((dpJ l s j).length : Nat) : Int)), (16, .int .i64 ((s : Nat) : Int)), (4, .int .i64 ((s : Nat) : Int)), (25, .int .i64 ((l.length : Nat) : Int)), (26, .int .i64 ((j : Nat) : Int)), (5, .int .i64 ((j : Nat) : Int)), (6, .bool (!(x.dep y))), (7, .int .i64 ((i : Nat) : Int)), (39, .bool ok)] ⟨rfl, rfl, rfl, rfl, rfl, rfl, rfl, rfl, rfl, rfl, rfl, trivial⟩ ?_
              refine To.blockN ?_
              refine To.thenN ?_
              refine To.reg ?_
              refine To.rd rfl rfl rfl (Rd.move rfl rfl) ?_
              refine To.rd rfl rfl rfl (Rd.inc rfl rfl rfl (by omega)) ?_
              refine To.rd rfl rfl rfl (Rd.assign rfl rfl) ?_
              refine To.nil ?_
              refine To.thenN ?_
              refine To.sub [(0, .slice Al l.length cl), (3, .slice (some ⟨b11, 0, none⟩) ((dpJ l s j).length) (2 ^ l.length)), (15, .int .i64 (((dpJ l s j).length : Nat) : Int)), (16, .int .i64 ((s : Nat) : Int)), (4, .int .i64 ((s : Nat) : Int)), (25, .int .i64 ((l.length : Nat) : Int)), (26, .int .i64 ((j : Nat) : Int)), (5, .int .i64 ((j : Nat) : Int)), (6, .bool (!x.dep y)), (7, .int .i64 (((i + 1) : Nat) : Int))] ⟨rfl, rfl, rfl, rfl, rfl, rfl, rfl, rfl, rfl, rfl, trivial⟩ ?_
              refine To.only [0, 0] rfl ?_
              refine To.again (j - (i + 1)) (by omega) ⟨i + 1, !x.dep y, rfl, rfl, rfl, (by omega), (by rw [okI_succ, ← hok, c39, ← bit1, decide_eq_false g47, depAt_of hx hy]; rfl)⟩
          ·
            refine To.exit ?_
            refine To.thenX ?_
            refine To.thenX ?_
            refine To.blockX ?_
            refine To.thenN ?_
            refine To.seq ?_
            have hokj : okj l s j = ok := by rw [c39]; exact okI_no (i := i) (by omega) (by rw [← hok, c39])
            refine To.reg ?_
            refine To.rd rfl rfl rfl (Rd.move rfl rfl) ?_
            refine To.nil ?_
            refine To.thenN ?_
            refine To.cond rfl (fun c59 => ?_) (fun c59 => ?_)
            ·
              have hbit : s.testBit j = false := by
                have := hokj.trans c59
                unfold okj at this
                rw [Bool.and_eq_true] at this
                simpa using this.1
              have hlt := ok_lt (l := l) hs2 (by omega) hbit
              have hlj := lenJ l s j
              obtain ⟨z, hz⟩ : ∃ z, (dpJ l s j)[s + 2 ^ j]? = some z := ⟨(dpJ l s j)[s + 2 ^ j]'(by omega), List.getElem?_eq_getElem _⟩
              have hcs : (dpJ l s j)[s]? = some c := by rw [dpJ_self]; exact hc
              have hnx := dpJ_yes hc (by omega) (hokj.trans c59) hz
              have hlo : s + 2 ^ j < (dpJ l s j).length := by omega
              refine To.flow [] [⟨0, [], 0⟩, ⟨1, [], 0⟩, ⟨2, [], 0⟩, ⟨3, [], 0⟩, ⟨4, [], 0⟩, ⟨7, [], 0⟩, ⟨8, [], 0⟩, ⟨5, [], 1⟩, ⟨6, [], 1⟩, ⟨9, [], 1⟩, ⟨10, [], 1⟩, ⟨11, [], 0⟩, ⟨12, [], 1⟩, ⟨13, [], 5⟩] mixed (by kernel_rfl) (oks_nil _) ?_
              refine FlowS.free rfl rfl rfl rfl (Rd.move rfl rfl) ?_
              refine FlowS.free rfl rfl rfl rfl (Rd.move rfl rfl) ?_
              refine FlowS.free rfl rfl rfl rfl (Rd.move rfl rfl) ?_
              refine FlowS.free rfl rfl rfl rfl (Rd.shl1 (j := j) rfl rfl rfl (by omega)) ?_
              refine FlowS.free rfl rfl rfl rfl (Rd.addN (a := s) (b := (2 ^ j)) rfl rfl rfl (by omega)) ?_
              refine FlowS.free rfl rfl rfl rfl (Rd.move rfl rfl) ?_
              refine FlowS.free rfl rfl rfl rfl (Rd.move rfl rfl) ?_
              refine FlowS.rd rfl rfl rfl rfl (Rd.indexRows (i := 0) (j := (s + (2 ^ j))) rfl rfl rfl s64 rfl hz) ?_
              refine FlowS.rd rfl rfl rfl rfl (Rd.load (i := 0) rfl rfl c30 rfl (gives_1 (rows_gives encN_ok hz) rfl)) ?_
              refine FlowS.rd rfl rfl rfl rfl (Rd.indexRows (i := 0) (j := s) rfl rfl rfl s64 rfl hcs) ?_
              refine FlowS.rd rfl rfl rfl rfl (Rd.load (i := 0) rfl rfl c30 rfl (gives_1 (rows_gives encN_ok hcs) rfl)) ?_
              refine FlowS.free rfl rfl rfl rfl (Rd.addU (a := z) (b := c) rfl rfl rfl) ?_
              refine FlowS.rd rfl rfl rfl rfl (Rd.indexRows (i := 0) (j := (s + (2 ^ j))) rfl rfl rfl s64 rfl hz) ?_
              refine FlowS.up (Γ' := [rows encN 30 1 (some ⟨b11, 0, none⟩) (2 ^ l.length) ((dpJ l s j).set (s + (2 ^ j)) ((z + c) % 18446744073709551616)), ros Ev.cells Al l]) rfl rfl rfl (Up.store (i := 0) rfl rfl rfl c30 rfl rfl (rows_takes encN_ok (y := ((z + c) % 18446744073709551616)) (by decide) (by omega))) (oks_nil _) ?_
              refine FlowS.fin ?_
              refine To.as [rows encN 30 1 (some ⟨b11, 0, none⟩) (2 ^ l.length) ((dpJ l s j).set (s + (2 ^ j)) ((z + c) % 18446744073709551616)), ros Ev.cells Al l] rfl ?_
              refine To.sub [(0, .slice Al l.length cl), (3, .slice (some ⟨b11, 0, none⟩) ((dpJ l s j).length) (2 ^ l.length)), (15, .int .i64 (((dpJ l s j).length : Nat) : Int)), (16, .int .i64 ((s : Nat) : Int)), (4, .int .i64 ((s : Nat) : Int)), (25, .int .i64 ((l.length : Nat) : Int)), (26, .int .i64 ((j : Nat) : Int)), (5, .int .i64 ((j : Nat) : Int)), (6, .bool ok), (59, .bool ok)] ⟨rfl, rfl, rfl, rfl, rfl, rfl, rfl, rfl, rfl, rfl, trivial⟩ ?_
              refine To.blockN ?_
              refine To.thenN ?_
              refine To.reg ?_
              refine To.rd rfl rfl rfl (Rd.inc rfl rfl rfl (by omega)) ?_
              refine To.rd rfl rfl rfl (Rd.move rfl rfl) ?_
              refine To.nil ?_
              refine To.thenN ?_
              refine To.sub [(0, .slice Al l.length cl), (3, .slice (some ⟨b11, 0, none⟩) ((dpJ l s (j + 1)).length) (2 ^ l.length)), (15, .int .i64 (((dpJ l s (j + 1)).length : Nat) : Int)), (16, .int .i64 ((s : Nat) : Int)), (4, .int .i64 ((s : Nat) : Int)), (25, .int .i64 ((l.length : Nat) : Int)), (26, .int .i64 (((j + 1) : Nat) : Int))] ⟨rfl, by rw [show (dpJ l s (j + 1)).length = (dpJ l s j).length by simp only [lenS, lenJ]]; rfl, by rw [show (dpJ l s (j + 1)).length = (dpJ l s j).length by simp only [lenS, lenJ]]; rfl, rfl, rfl, rfl, rfl, trivial⟩ ?_
              refine To.only [0, 0] rfl ?_
              refine To.as [rows encN 30 1 (some ⟨b11, 0, none⟩) (2 ^ l.length) (dpJ l s (j + 1)), ros Ev.cells Al l] (by rw [hnx]) ?_
              refine To.again (l.length - (j + 1)) (by omega) ⟨j + 1, rfl, rfl, rfl, (by omega)⟩
            ·
              refine To.skip ?_
              refine To.blockN ?_
              refine To.thenN ?_
              refine To.reg ?_
              refine To.rd rfl rfl rfl (Rd.inc rfl rfl rfl (by omega)) ?_
              refine To.rd rfl rfl rfl (Rd.move rfl rfl) ?_
              refine To.nil ?_
              refine To.thenN ?_
              have hnx := dpJ_no (j := j) hc (fun hh => by rw [hokj, c59] at hh; cases hh.2)
              refine To.sub [(0, .slice Al l.length cl), (3, .slice (some ⟨b11, 0, none⟩) ((dpJ l s (j + 1)).length) (2 ^ l.length)), (15, .int .i64 (((dpJ l s (j + 1)).length : Nat) : Int)), (16, .int .i64 ((s : Nat) : Int)), (4, .int .i64 ((s : Nat) : Int)), (25, .int .i64 ((l.length : Nat) : Int)), (26, .int .i64 (((j + 1) : Nat) : Int))] ⟨rfl, by rw [show (dpJ l s (j + 1)).length = (dpJ l s j).length by simp only [lenS, lenJ]]; rfl, by rw [show (dpJ l s (j + 1)).length = (dpJ l s j).length by simp only [lenS, lenJ]]; rfl, rfl, rfl, rfl, rfl, trivial⟩ ?_
              refine To.only [0, 0] rfl ?_
              refine To.as [rows encN 30 1 (some ⟨b11, 0, none⟩) (2 ^ l.length) (dpJ l s (j + 1)), ros Ev.cells Al l] (by rw [hnx]) ?_
              refine To.again (l.length - (j + 1)) (by omega) ⟨j + 1, rfl, rfl, rfl, (by omega)⟩
        ·
          refine To.sk rfl rfl rfl ?_
          refine To.rd rfl rfl rfl (Rd.pickF rfl rfl rfl) ?_
          refine To.nil ?_
          refine To.thenN ?_
          refine To.condF rfl ?_
          refine To.exit ?_
          refine To.thenX ?_
          refine To.thenX ?_
          refine To.blockX ?_
          refine To.thenN ?_
          refine To.seq ?_
          obtain rfl : j = i := by omega
          have hokj : okj l s j = ok := hok.symm
          refine To.reg ?_
          refine To.rd rfl rfl rfl (Rd.move rfl rfl) ?_
          refine To.nil ?_
          refine To.thenN ?_
          refine To.cond rfl (fun c59 => ?_) (fun c59 => ?_)
          ·
            have hbit : s.testBit j = false := by
              have := hokj.trans c59
              unfold okj at this
              rw [Bool.and_eq_true] at this
              simpa using this.1
            have hlt := ok_lt (l := l) hs2 (by omega) hbit
            have hlj := lenJ l s j
            obtain ⟨z, hz⟩ : ∃ z, (dpJ l s j)[s + 2 ^ j]? = some z := ⟨(dpJ l s j)[s + 2 ^ j]'(by omega), List.getElem?_eq_getElem _⟩
            have hcs : (dpJ l s j)[s]? = some c := by rw [dpJ_self]; exact hc
            have hnx := dpJ_yes hc (by omega) (hokj.trans c59) hz
            have hlo : s + 2 ^ j < (dpJ l s j).length := by omega
            refine To.flow [] [⟨0, [], 0⟩, ⟨1, [], 0⟩, ⟨2, [], 0⟩, ⟨3, [], 0⟩, ⟨4, [], 0⟩, ⟨7, [], 0⟩, ⟨8, [], 0⟩, ⟨5, [], 1⟩, ⟨6, [], 1⟩, ⟨9, [], 1⟩, ⟨10, [], 1⟩, ⟨11, [], 0⟩, ⟨12, [], 1⟩, ⟨13, [], 5⟩] mixed (by kernel_rfl) (oks_nil _) ?_
            refine FlowS.free rfl rfl rfl rfl (Rd.move rfl rfl) ?_
            refine FlowS.free rfl rfl rfl rfl (Rd.move rfl rfl) ?_
            refine FlowS.free rfl rfl rfl rfl (Rd.move rfl rfl) ?_
            refine FlowS.free rfl rfl rfl rfl (Rd.shl1 (j := j) rfl rfl rfl (by omega)) ?_
            refine FlowS.free rfl rfl rfl rfl (Rd.addN (a := s) (b := (2 ^ j)) rfl rfl rfl (by omega)) ?_
            refine FlowS.free rfl rfl rfl rfl (Rd.move rfl rfl) ?_
            refine FlowS.free rfl rfl rfl rfl (Rd.move rfl rfl) ?_
            refine FlowS.rd rfl rfl rfl rfl (Rd.indexRows (i := 0) (j := (s + (2 ^ j))) rfl rfl rfl s64 rfl hz) ?_
            refine FlowS.rd rfl rfl rfl rfl (Rd.load (i := 0) rfl rfl c30 rfl (gives_1 (rows_gives encN_ok hz) rfl)) ?_
            refine FlowS.rd rfl rfl rfl rfl (Rd.indexRows (i := 0) (j := s) rfl rfl rfl s64 rfl hcs) ?_
            refine FlowS.rd rfl rfl rfl rfl (Rd.load (i := 0) rfl rfl c30 rfl (gives_1 (rows_gives encN_ok hcs) rfl)) ?_
            refine FlowS.free rfl rfl rfl rfl (Rd.addU (a := z) (b := c) rfl rfl rfl) ?_
            refine FlowS.rd rfl rfl rfl rfl (Rd.indexRows (i := 0) (j := (s + (2 ^ j))) rfl rfl rfl s64 rfl hz) ?_
            refine FlowS.up (Γ' := [rows encN 30 1 (some ⟨b11, 0, none⟩) (2 ^ l.length) ((dpJ l s j).set (s + (2 ^ j)) ((z + c) % 18446744073709551616)), ros Ev.cells Al l]) rfl rfl rfl (Up.store (i := 0) rfl rfl rfl c30 rfl rfl (rows_takes encN_ok (y := ((z + c) % 18446744073709551616)) (by decide) (by omega))) (oks_nil _) ?_
            refine FlowS.fin ?_
            refine To.as [rows encN 30 1 (some ⟨b11, 0, none⟩) (2 ^ l.length) ((dpJ l s j).set (s + (2 ^ j)) ((z + c) % 18446744073709551616)), ros Ev.cells Al l] rfl ?_
            refine To.sub [(0, .slice Al l.length cl), (3, .slice (some ⟨b11, 0, none⟩) ((dpJ l s j).length) (2 ^ l.length)), (15, .int .i64 (((dpJ l s j).length : Nat) : Int)), (16, .int .i64 ((s : Nat) : Int)), (4, .int .i64 ((s : Nat) : Int)), (25, .int .i64 ((l.length : Nat) : Int)), (26, .int .i64 ((j : Nat) : Int)), (5, .int .i64 ((j : Nat) : Int)), (6, .bool ok), (59, .bool ok)] ⟨rfl, rfl, rfl, rfl, rfl, rfl, rfl, rfl, rfl, rfl, trivial⟩ ?_
            refine To.blockN ?_
            refine To.thenN ?_
            refine To.reg ?_
            refine To.rd rfl rfl rfl (Rd.inc rfl rfl rfl (by omega)) ?_
            refine To.rd rfl rfl rfl (Rd.move rfl rfl) ?_
            refine To.nil ?_
            refine To.thenN ?_
            refine To.sub [(0, .slice Al l.length cl), (3, .slice (some ⟨b11, 0, none⟩) ((dpJ l s (j + 1)).length) (2 ^ l.length)), (15, .int .i64 (((dpJ l s (j + 1)).length : Nat) : Int)), (16, .int .i64 ((s : Nat) : Int)), (4, .int .i64 ((s : Nat) : Int)), (25, .int .i64 ((l.length : Nat) : Int)), (26, .int .i64 (((j + 1) : Nat) : Int))] ⟨rfl, by rw [show (dpJ l s (j + 1)).length = (dpJ l s j).length by simp only [lenS, lenJ]]; rfl, by rw [show (dpJ l s (j + 1)).length = (dpJ l s j).length by simp only [lenS, lenJ]]; rfl, rfl, rfl, rfl, rfl, trivial⟩ ?_
            refine To.only [0, 0] rfl ?_
            refine To.as [rows encN 30 1 (some ⟨b11, 0, none⟩) (2 ^ l.length) (dpJ l s (j + 1)), ros Ev.cells Al l] (by rw [hnx]) ?_
            refine To.again (l.length - (j + 1)) (by omega) ⟨j + 1, rfl, rfl, rfl, (by omega)⟩
          ·
            refine To.skip ?_
            refine To.blockN ?_
            refine To.thenN ?_
            refine To.reg ?_
            refine To.rd rfl rfl rfl (Rd.inc rfl rfl rfl (by omega)) ?_
            refine To.rd rfl rfl rfl (Rd.move rfl rfl) ?_
            refine To.nil ?_
            refine To.thenN ?_
            have hnx := dpJ_no (j := j) hc (fun hh => by rw [hokj, c59] at hh; cases hh.2)
            refine To.sub [(0, .slice Al l.length cl), (3, .slice (some ⟨b11, 0, none⟩) ((dpJ l s (j + 1)).length) (2 ^ l.length)), (15, .int .i64 (((dpJ l s (j + 1)).length : Nat) : Int)), (16, .int .i64 ((s : Nat) : Int)), (4, .int .i64 ((s : Nat) : Int)), (25, .int .i64 ((l.length : Nat) : Int)), (26, .int .i64 (((j + 1) : Nat) : Int))] ⟨rfl, by rw [show (dpJ l s (j + 1)).length = (dpJ l s j).length by simp only [lenS, lenJ]]; rfl, by rw [show (dpJ l s (j + 1)).length = (dpJ l s j).length by simp only [lenS, lenJ]]; rfl, rfl, rfl, rfl, rfl, trivial⟩ ?_
            refine To.only [0, 0] rfl ?_
            refine To.as [rows encN 30 1 (some ⟨b11, 0, none⟩) (2 ^ l.length) (dpJ l s (j + 1)), ros Ev.cells Al l] (by rw [hnx]) ?_
            refine To.again (l.length - (j + 1)) (by omega) ⟨j + 1, rfl, rfl, rfl, (by omega)⟩
      ·
        refine To.exit ?_
        refine To.thenX ?_
        refine To.thenX ?_
        refine To.blockX ?_
        refine To.blockN ?_
        refine To.thenN ?_
        refine To.reg ?_
        refine To.rd rfl rfl rfl (Rd.inc rfl rfl rfl (by omega)) ?_
        refine To.rd rfl rfl rfl (Rd.move rfl rfl) ?_
        refine To.nil ?_
        refine To.thenN ?_
        obtain rfl : j = l.length := by omega
        refine To.sub [(0, .slice Al l.length cl), (3, .slice (some ⟨b11, 0, none⟩) ((dpS l (s + 1)).length) (2 ^ l.length)), (15, .int .i64 (((dpS l (s + 1)).length : Nat) : Int)), (16, .int .i64 (((s + 1) : Nat) : Int))] ⟨rfl, by rw [show (dpS l (s + 1)).length = (dpJ l s l.length).length by simp only [lenS, lenJ]]; rfl, by rw [show (dpS l (s + 1)).length = (dpJ l s l.length).length by simp only [lenS, lenJ]]; rfl, rfl, trivial⟩ ?_
        refine To.only [0, 0] rfl ?_
        refine To.as [rows encN 30 1 (some ⟨b11, 0, none⟩) (2 ^ l.length) (dpS l (s + 1)), ros Ev.cells Al l] (by rw [dpS_succ]) ?_
        refine To.again (2 ^ l.length - (s + 1)) (by omega) ⟨s + 1, rfl, rfl, rfl, (by omega)⟩
  ·
    refine To.exit ?_
    refine To.thenX ?_
    refine To.thenX ?_
    refine To.blockX ?_
    refine To.thenN ?_
    refine To.seq ?_
    have hlS := lenS l s
    obtain rfl : s = 2 ^ l.length := by omega
    obtain ⟨z, hz⟩ : ∃ z, (dpS l (2 ^ l.length))[(dpS l (2 ^ l.length)).length - 1]? = some z := ⟨(dpS l (2 ^ l.length))[(dpS l (2 ^ l.length)).length - 1]'(by omega), List.getElem?_eq_getElem _⟩
    refine To.reg ?_
    refine To.rd rfl rfl rfl (Rd.move rfl rfl) ?_
    refine To.rd rfl rfl rfl (Rd.move rfl rfl) ?_
    refine To.rd rfl rfl rfl (Rd.len rfl rfl Try.underlying64) ?_
    refine To.rd rfl rfl rfl (Rd.as (v' := .int .i64 (((dpS l (2 ^ l.length)).length - 1 : Nat) : Int)) (congrArg (Value.int .i64) (by omega)) (Rd.sub64 rfl rfl rfl (by omega))) ?_
    refine To.rd rfl rfl rfl (Rd.indexRows (i := 0) (j := ((dpS l (2 ^ l.length)).length - 1)) rfl rfl rfl s64 rfl hz) ?_
    refine To.rd rfl rfl rfl (Rd.load (i := 0) rfl rfl c30 rfl (gives_1 (rows_gives encN_ok hz) rfl)) ?_
    refine To.rd rfl rfl rfl (Rd.assign rfl rfl) ?_
    refine To.nil ?_
    refine To.thenN ?_
    refine To.ret ?_
    refine To.end1 (.inl rfl) Try.results17 rfl ?_
    have he : cntV l = z := by unfold cntV; rw [hlS] at hz; rw [hz]; rfl
    rw [he]
end Go.Proofs.Ytneimfacccgaeaa

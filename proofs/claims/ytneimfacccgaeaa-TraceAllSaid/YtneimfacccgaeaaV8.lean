/- The reference's Valid. Own text (walks printed by sx.py). -/
import Derived.Test.YtneimfacccgaeaaV7
namespace Go.Proofs.Ytneimfacccgaeaa
open Go.RowKit Go.Flow Go.Mem Go.Sep
/-- x stands before y, and that is not possible. -/
def Ev.bad (x y : Ev) : Bool := decide (x.c = y.c ∧ y.t < x.t) || (y.arr x && decide (y.t ≤ x.t)) || x.arr y
def RV (l : List Ev) (n : Nat) : Prop := ∀ (i j : Nat) (x y : Ev), i < j → j < n → l[i]? = some x → l[j]? = some y → x.bad y = false
set_option maxHeartbeats 2000000 in
set_option maxRecDepth 100000 in
theorem rvalid_fn (Al : Option Addr) (cl : Nat) (l : List Ev) (hl : l.length ≤ 1000000) :
    Does Try.prog 29 [.slice Al l.length cl] [ros Ev.cells Al l] (fun v _ => ∃ b : Bool, v = .bool b ∧ (b = true ↔ RV l l.length)) := by
  refine Does.enter Try.func29 rfl Try.ntmps29 rfl (fun w0 => ?_)
  refine To.seq ?_
  refine To.reg ?_
  refine To.rd rfl rfl rfl (Rd.assign rfl rfl) ?_
  refine To.nil ?_
  refine To.thenN ?_
  refine To.seq ?_
  refine To.seq ?_
  refine To.reg ?_
  refine To.rd rfl rfl rfl (Rd.move rfl rfl) ?_
  refine To.rd rfl rfl rfl (Rd.len rfl rfl Try.underlying22) ?_
  refine To.rd rfl rfl rfl (Rd.move rfl rfl) ?_
  refine To.nil ?_
  refine To.thenN ?_
  refine To.block ?_
  refine To.sub [(0, .slice Al l.length cl), (6, .int .i64 ((l.length : Nat) : Int)), (7, .int .i64 ((0 : Nat) : Int))] ⟨rfl, rfl, rfl, trivial⟩ ?_
  refine To.only [0] rfl ?_
  refine To.loop (fun mz ρ Γ => ∃ (j : Nat), ρ = [(0, .slice Al l.length cl), (6, .int .i64 ((l.length : Nat) : Int)), (7, .int .i64 ((j : Nat) : Int))] ∧ Γ = [ros Ev.cells Al l] ∧ mz = l.length - j ∧ (j ≤ l.length) ∧ (RV l j)) (l.length - 0) ⟨0, rfl, rfl, rfl, (Nat.zero_le _), (fun _ _ _ _ _ h => absurd h (by omega))⟩ ?_
  rintro mz _ _ ⟨j, rfl, rfl, rfl, hj, hJ⟩
  refine To.seq ?_
  refine To.reg ?_
  refine To.rd rfl rfl rfl (Rd.lss rfl rfl rfl) ?_
  refine To.nil ?_
  refine To.thenN ?_
  refine To.seq ?_
  refine To.condP rfl (fun c8 => ?_) (fun c8 => ?_)
  ·
    obtain ⟨y, hy⟩ : ∃ z0, l[j]? = some z0 := ⟨l[j]'(by omega), List.getElem?_eq_getElem _⟩
    refine To.skip ?_
    refine To.thenN ?_
    refine To.seq ?_
    refine To.block ?_
    refine To.seq ?_
    refine To.reg ?_
    refine To.rd rfl rfl rfl (Rd.move rfl rfl) ?_
    refine To.rd rfl rfl rfl (Rd.assign rfl rfl) ?_
    refine To.nil ?_
    refine To.thenN ?_
    refine To.seq ?_
    refine To.reg ?_
    refine To.rd rfl rfl rfl (Rd.assign rfl rfl) ?_
    refine To.nil ?_
    refine To.thenN ?_
    refine To.block ?_
    refine To.sub [(0, .slice Al l.length cl), (6, .int .i64 ((l.length : Nat) : Int)), (7, .int .i64 ((j : Nat) : Int)), (3, .int .i64 ((j : Nat) : Int)), (4, .int .i64 ((0 : Nat) : Int))] ⟨rfl, rfl, rfl, rfl, rfl, trivial⟩ ?_
    refine To.only [0] rfl ?_
    refine To.loop (fun mz ρ Γ => ∃ (i : Nat), ρ = [(0, .slice Al l.length cl), (6, .int .i64 ((l.length : Nat) : Int)), (7, .int .i64 ((j : Nat) : Int)), (3, .int .i64 ((j : Nat) : Int)), (4, .int .i64 ((i : Nat) : Int))] ∧ Γ = [ros Ev.cells Al l] ∧ mz = j - i ∧ (i ≤ j) ∧ (∀ (i2 : Nat) (x2 y2 : Ev), i2 < i → l[i2]? = some x2 → l[j]? = some y2 → x2.bad y2 = false)) (j - 0) ⟨0, rfl, rfl, rfl, (Nat.zero_le _), (fun _ _ _ h => absurd h (by omega))⟩ ?_
    rintro mz _ _ ⟨i, rfl, rfl, rfl, hi, hI⟩
    refine To.seq ?_
    refine To.seq ?_
    refine To.reg ?_
    refine To.rd rfl rfl rfl (Rd.move rfl rfl) ?_
    refine To.rd rfl rfl rfl (Rd.move rfl rfl) ?_
    refine To.rd rfl rfl rfl (Rd.lss rfl rfl rfl) ?_
    refine To.nil ?_
    refine To.thenN ?_
    refine To.condP rfl (fun c12 => ?_) (fun c12 => ?_)
    ·
      obtain ⟨x, hx⟩ : ∃ z0, l[i]? = some z0 := ⟨l[i]'(by omega), List.getElem?_eq_getElem _⟩
      refine To.skip ?_
      refine To.thenN ?_
      refine To.seq ?_
      refine To.block ?_
      refine To.seq ?_
      refine To.flow [ros Ev.cells Al l] [⟨0, [], 0⟩, ⟨1, [], 0⟩, ⟨5, [], 0⟩, ⟨6, [], 0⟩, ⟨2, [], 1⟩, ⟨3, [], 0⟩, ⟨4, [], 1⟩, ⟨7, [], 1⟩, ⟨8, [], 0⟩, ⟨9, [], 1⟩, ⟨10, [], 0⟩, ⟨11, [], 0⟩, ⟨12, [], 0⟩, ⟨13, [], 0⟩, ⟨17, [], 0⟩, ⟨18, [], 0⟩, ⟨14, [], 1⟩, ⟨15, [], 0⟩, ⟨16, [], 1⟩, ⟨19, [], 1⟩, ⟨20, [], 0⟩, ⟨21, [], 1⟩, ⟨22, [], 0⟩, ⟨23, [], 0⟩, ⟨24, [], 0⟩, ⟨25, [], 0⟩, ⟨26, [], 0⟩, ⟨29, [], 0⟩, ⟨30, [], 0⟩, ⟨27, [], 1⟩, ⟨28, [], 1⟩, ⟨31, [], 1⟩, ⟨32, [], 1⟩, ⟨33, [], 3⟩, ⟨34, [], 0⟩, ⟨35, [], 0⟩, ⟨36, [], 0⟩, ⟨40, [], 0⟩, ⟨41, [], 0⟩, ⟨37, [], 1⟩, ⟨38, [], 0⟩, ⟨39, [], 1⟩, ⟨42, [], 1⟩, ⟨43, [], 0⟩, ⟨44, [], 1⟩, ⟨45, [], 0⟩, ⟨46, [], 0⟩, ⟨47, [], 0⟩, ⟨48, [], 0⟩, ⟨49, [], 0⟩, ⟨50, [], 0⟩, ⟨53, [], 0⟩, ⟨54, [], 0⟩, ⟨51, [], 1⟩, ⟨52, [], 1⟩, ⟨55, [], 1⟩, ⟨56, [], 1⟩, ⟨57, [], 3⟩, ⟨58, [], 0⟩] mixed (by kernel_rfl) (oks_cons (oks_at 0 rfl) (oks_nil _)) ?_
      refine FlowS.free rfl rfl rfl rfl (Rd.move rfl rfl) ?_
      refine FlowS.free rfl rfl rfl rfl (Rd.move rfl rfl) ?_
      refine FlowS.free rfl rfl rfl rfl (Rd.move rfl rfl) ?_
      refine FlowS.free rfl rfl rfl rfl (Rd.move rfl rfl) ?_
      refine FlowS.rd rfl rfl rfl rfl (Rd.indexRos encE (i := 0) (j := i) rfl rfl rfl s22 rfl hx) ?_
      refine FlowS.free rfl rfl rfl rfl (Rd.field rfl rfl fl37_1) ?_
      refine FlowS.rd rfl rfl rfl rfl (Rd.load (i := 0) rfl rfl c3 rfl (gives_at (ros_gives encE hx) rfl)) ?_
      refine FlowS.rd rfl rfl rfl rfl (Rd.indexRos encE (i := 0) (j := j) rfl rfl rfl s22 rfl hy) ?_
      refine FlowS.free rfl rfl rfl rfl (Rd.field rfl rfl fl37_1) ?_
      refine FlowS.rd rfl rfl rfl rfl (Rd.load (i := 0) rfl rfl c3 rfl (gives_at (ros_gives encE hy) rfl)) ?_
      refine FlowS.free rfl rfl rfl rfl (Rd.eql rfl rfl rfl) ?_
      refine FlowS.rdP rfl rfl rfl rfl (Rd.move rfl rfl) (fun g26 => ?_) (fun g26 => ?_)
      ·
        refine FlowS.free rfl rfl rfl rfl (Rd.move rfl rfl) ?_
        refine FlowS.free rfl rfl rfl rfl (Rd.move rfl rfl) ?_
        refine FlowS.free rfl rfl rfl rfl (Rd.move rfl rfl) ?_
        refine FlowS.free rfl rfl rfl rfl (Rd.move rfl rfl) ?_
        refine FlowS.rd rfl rfl rfl rfl (Rd.indexRos encE (i := 0) (j := i) rfl rfl rfl s22 rfl hx) ?_
        refine FlowS.free rfl rfl rfl rfl (Rd.field rfl rfl fl37_0) ?_
        refine FlowS.rd rfl rfl rfl rfl (Rd.load (i := 0) rfl rfl c3 rfl (gives_at (f := 0) (ros_gives encE hx) rfl)) ?_
        refine FlowS.rd rfl rfl rfl rfl (Rd.indexRos encE (i := 0) (j := j) rfl rfl rfl s22 rfl hy) ?_
        refine FlowS.free rfl rfl rfl rfl (Rd.field rfl rfl fl37_0) ?_
        refine FlowS.rd rfl rfl rfl rfl (Rd.load (i := 0) rfl rfl c3 rfl (gives_at (f := 0) (ros_gives encE hy) rfl)) ?_
        refine FlowS.free rfl rfl rfl rfl (Rd.gtr rfl rfl rfl) ?_
        refine FlowS.free rfl rfl rfl rfl (Rd.pickT rfl rfl rfl) ?_
        refine FlowS.rdP rfl rfl rfl rfl (Rd.move rfl rfl) (fun g39 => ?_) (fun g39 => ?_)
        ·
          refine FlowS.skip (by decide) rfl rfl rfl rfl ?_
          refine FlowS.skip (by decide) rfl rfl rfl rfl ?_
          refine FlowS.skip (by decide) rfl rfl rfl rfl ?_
          refine FlowS.skip (by decide) rfl rfl rfl rfl ?_
          refine FlowS.skip (by decide) rfl rfl rfl rfl ?_
          refine FlowS.skip (by decide) rfl rfl rfl rfl ?_
          refine FlowS.skip (by decide) rfl rfl rfl rfl ?_
          refine FlowS.skip (by decide) rfl rfl rfl rfl ?_
          refine FlowS.skip (by decide) rfl rfl rfl rfl ?_
          refine FlowS.skip (by decide) rfl rfl rfl rfl ?_
          refine FlowS.skip (by decide) rfl rfl rfl rfl ?_
          refine FlowS.skip (by decide) rfl rfl rfl rfl ?_
          refine FlowS.skip (by decide) rfl rfl rfl rfl ?_
          refine FlowS.skip (by decide) rfl rfl rfl rfl ?_
          refine FlowS.skip (by decide) rfl rfl rfl rfl ?_
          refine FlowS.skip (by decide) rfl rfl rfl rfl ?_
          refine FlowS.skip (by decide) rfl rfl rfl rfl ?_
          refine FlowS.skip (by decide) rfl rfl rfl rfl ?_
          refine FlowS.skip (by decide) rfl rfl rfl rfl ?_
          refine FlowS.skip (by decide) rfl rfl rfl rfl ?_
          refine FlowS.skip (by decide) rfl rfl rfl rfl ?_
          refine FlowS.skip (by decide) rfl rfl rfl rfl ?_
          refine FlowS.free rfl rfl rfl rfl (Rd.pickT rfl rfl rfl) ?_
          refine FlowS.free rfl rfl rfl rfl (Rd.move rfl rfl) ?_
          refine FlowS.skip (by decide) rfl rfl rfl rfl ?_
          refine FlowS.skip (by decide) rfl rfl rfl rfl ?_
          refine FlowS.skip (by decide) rfl rfl rfl rfl ?_
          refine FlowS.skip (by decide) rfl rfl rfl rfl ?_
          refine FlowS.skip (by decide) rfl rfl rfl rfl ?_
          refine FlowS.skip (by decide) rfl rfl rfl rfl ?_
          refine FlowS.skip (by decide) rfl rfl rfl rfl ?_
          refine FlowS.skip (by decide) rfl rfl rfl rfl ?_
          refine FlowS.skip (by decide) rfl rfl rfl rfl ?_
          refine FlowS.free rfl rfl rfl rfl (Rd.pickT rfl rfl rfl) ?_
          refine FlowS.fin ?_
          refine To.as [ros Ev.cells Al l] rfl ?_
          refine To.sub [(0, .slice Al l.length cl), (6, .int .i64 ((l.length : Nat) : Int)), (7, .int .i64 ((j : Nat) : Int)), (3, .int .i64 ((j : Nat) : Int)), (4, .int .i64 ((i : Nat) : Int)), (12, .bool (decide (((i : Nat) : Int) < ((j : Nat) : Int)))), (73, .bool true)] ⟨rfl, rfl, rfl, rfl, rfl, rfl, rfl, trivial⟩ ?_
          refine To.thenN ?_
          refine To.condT rfl ?_
          refine To.seq ?_
          refine To.reg ?_
          refine To.rd rfl rfl rfl (Rd.assign rfl rfl) ?_
          refine To.nil ?_
          refine To.thenN ?_
          refine To.ret ?_
          refine To.blockR ?_
          refine To.thenR ?_
          refine To.thenR ?_
          refine To.blockR ?_
          refine To.blockR ?_
          refine To.thenR ?_
          refine To.thenR ?_
          refine To.blockR ?_
          refine To.thenR ?_
          refine To.end1 (.inl rfl) Try.results29 rfl ?_
          refine ⟨false, rfl, fun h => (by cases h), fun h => ?_⟩
          have hb := h i j x y (by omega) (by omega) hx hy
          simp [Ev.bad, g26, g39] at hb
        ·
          refine FlowS.free rfl rfl rfl rfl (Rd.move rfl rfl) ?_
          refine FlowS.free rfl rfl rfl rfl (Rd.move rfl rfl) ?_
          refine FlowS.free rfl rfl rfl rfl (Rd.move rfl rfl) ?_
          refine FlowS.free rfl rfl rfl rfl (Rd.move rfl rfl) ?_
          refine FlowS.rd rfl rfl rfl rfl (Rd.indexRos encE (i := 0) (j := j) rfl rfl rfl s22 rfl hy) ?_
          refine FlowS.rd rfl rfl rfl rfl (Rd.loadS (i := 0) rfl rfl r37 rfl (ros_gives encE hy) (encE.len _)) ?_
          refine FlowS.rd rfl rfl rfl rfl (Rd.indexRos encE (i := 0) (j := i) rfl rfl rfl s22 rfl hx) ?_
          refine FlowS.rd rfl rfl rfl rfl (Rd.loadS (i := 0) rfl rfl r37 rfl (ros_gives encE hx) (encE.len _)) ?_
          refine FlowS.callQ rfl rfl rfl rfl (Ent.fn rfl rfl ca40) (arrival_fn y x) rfl (oks_nil _) ?_
          refine FlowS.rdB rfl rfl rfl rfl (Rd.move rfl rfl) (fun g49 => ?_) (fun g49 => ?_)
          ·
            refine FlowS.free rfl rfl rfl rfl (Rd.move rfl rfl) ?_
            refine FlowS.free rfl rfl rfl rfl (Rd.move rfl rfl) ?_
            refine FlowS.free rfl rfl rfl rfl (Rd.move rfl rfl) ?_
            refine FlowS.free rfl rfl rfl rfl (Rd.move rfl rfl) ?_
            refine FlowS.rd rfl rfl rfl rfl (Rd.indexRos encE (i := 0) (j := j) rfl rfl rfl s22 rfl hy) ?_
            refine FlowS.free rfl rfl rfl rfl (Rd.field rfl rfl fl37_0) ?_
            refine FlowS.rd rfl rfl rfl rfl (Rd.load (i := 0) rfl rfl c3 rfl (gives_at (f := 0) (ros_gives encE hy) rfl)) ?_
            refine FlowS.rd rfl rfl rfl rfl (Rd.indexRos encE (i := 0) (j := i) rfl rfl rfl s22 rfl hx) ?_
            refine FlowS.free rfl rfl rfl rfl (Rd.field rfl rfl fl37_0) ?_
            refine FlowS.rd rfl rfl rfl rfl (Rd.load (i := 0) rfl rfl c3 rfl (gives_at (f := 0) (ros_gives encE hx) rfl)) ?_
            refine FlowS.free rfl rfl rfl rfl (Rd.leq rfl rfl rfl) ?_
            refine FlowS.free rfl rfl rfl rfl (Rd.pickT rfl rfl rfl) ?_
            refine FlowS.free rfl rfl rfl rfl (Rd.pickF rfl rfl rfl) ?_
            refine FlowS.rdP rfl rfl rfl rfl (Rd.move rfl rfl) (fun g63 => ?_) (fun g63 => ?_)
            ·
              refine FlowS.skip (by decide) rfl rfl rfl rfl ?_
              refine FlowS.skip (by decide) rfl rfl rfl rfl ?_
              refine FlowS.skip (by decide) rfl rfl rfl rfl ?_
              refine FlowS.skip (by decide) rfl rfl rfl rfl ?_
              refine FlowS.skip (by decide) rfl rfl rfl rfl ?_
              refine FlowS.skip (by decide) rfl rfl rfl rfl ?_
              refine FlowS.skip (by decide) rfl rfl rfl rfl ?_
              refine FlowS.skip (by decide) rfl rfl rfl rfl ?_
              refine FlowS.skip (by decide) rfl rfl rfl rfl ?_
              refine FlowS.free rfl rfl rfl rfl (Rd.pickT rfl rfl rfl) ?_
              refine FlowS.fin ?_
              refine To.as [ros Ev.cells Al l] rfl ?_
              refine To.sub [(0, .slice Al l.length cl), (6, .int .i64 ((l.length : Nat) : Int)), (7, .int .i64 ((j : Nat) : Int)), (3, .int .i64 ((j : Nat) : Int)), (4, .int .i64 ((i : Nat) : Int)), (12, .bool (decide (((i : Nat) : Int) < ((j : Nat) : Int)))), (73, .bool true)] ⟨rfl, rfl, rfl, rfl, rfl, rfl, rfl, trivial⟩ ?_
              refine To.thenN ?_
              refine To.condT rfl ?_
              refine To.seq ?_
              refine To.reg ?_
              refine To.rd rfl rfl rfl (Rd.assign rfl rfl) ?_
              refine To.nil ?_
              refine To.thenN ?_
              refine To.ret ?_
              refine To.blockR ?_
              refine To.thenR ?_
              refine To.thenR ?_
              refine To.blockR ?_
              refine To.blockR ?_
              refine To.thenR ?_
              refine To.thenR ?_
              refine To.blockR ?_
              refine To.thenR ?_
              refine To.end1 (.inl rfl) Try.results29 rfl ?_
              refine ⟨false, rfl, fun h => (by cases h), fun h => ?_⟩
              have hb := h i j x y (by omega) (by omega) hx hy
              simp [Ev.bad, g26, g39, g49, g63] at hb
            ·
              refine FlowS.free rfl rfl rfl rfl (Rd.move rfl rfl) ?_
              refine FlowS.free rfl rfl rfl rfl (Rd.move rfl rfl) ?_
              refine FlowS.free rfl rfl rfl rfl (Rd.move rfl rfl) ?_
              refine FlowS.free rfl rfl rfl rfl (Rd.move rfl rfl) ?_
              refine FlowS.rd rfl rfl rfl rfl (Rd.indexRos encE (i := 0) (j := i) rfl rfl rfl s22 rfl hx) ?_
              refine FlowS.rd rfl rfl rfl rfl (Rd.loadS (i := 0) rfl rfl r37 rfl (ros_gives encE hx) (encE.len _)) ?_
              refine FlowS.rd rfl rfl rfl rfl (Rd.indexRos encE (i := 0) (j := j) rfl rfl rfl s22 rfl hy) ?_
              refine FlowS.rd rfl rfl rfl rfl (Rd.loadS (i := 0) rfl rfl r37 rfl (ros_gives encE hy) (encE.len _)) ?_
              refine FlowS.callQ rfl rfl rfl rfl (Ent.fn rfl rfl ca40) (arrival_fn x y) rfl (oks_nil _) ?_
              refine FlowS.free rfl rfl rfl rfl (Rd.pickF rfl rfl rfl) ?_
              refine FlowS.fin ?_
              refine To.as [ros Ev.cells Al l] rfl ?_
              refine To.sub [(0, .slice Al l.length cl), (6, .int .i64 ((l.length : Nat) : Int)), (7, .int .i64 ((j : Nat) : Int)), (3, .int .i64 ((j : Nat) : Int)), (4, .int .i64 ((i : Nat) : Int)), (12, .bool (decide (((i : Nat) : Int) < ((j : Nat) : Int)))), (73, .bool (x.arr y))] ⟨rfl, rfl, rfl, rfl, rfl, rfl, rfl, trivial⟩ ?_
              refine To.thenN ?_
              refine To.cond rfl (fun c73 => ?_) (fun c73 => ?_)
              ·
                refine To.seq ?_
                refine To.reg ?_
                refine To.rd rfl rfl rfl (Rd.assign rfl rfl) ?_
                refine To.nil ?_
                refine To.thenN ?_
                refine To.ret ?_
                refine To.blockR ?_
                refine To.thenR ?_
                refine To.thenR ?_
                refine To.blockR ?_
                refine To.blockR ?_
                refine To.thenR ?_
                refine To.thenR ?_
                refine To.blockR ?_
                refine To.thenR ?_
                refine To.end1 (.inl rfl) Try.results29 rfl ?_
                refine ⟨false, rfl, fun h => (by cases h), fun h => ?_⟩
                have hb := h i j x y (by omega) (by omega) hx hy
                simp [Ev.bad, c73, g26, g39, g49, g63] at hb
              ·
                refine To.skip ?_
                refine To.blockN ?_
                refine To.thenN ?_
                refine To.reg ?_
                refine To.rd rfl rfl rfl (Rd.move rfl rfl) ?_
                refine To.rd rfl rfl rfl (Rd.inc rfl rfl rfl (by omega)) ?_
                refine To.rd rfl rfl rfl (Rd.assign rfl rfl) ?_
                refine To.nil ?_
                refine To.thenN ?_
                refine To.sub [(0, .slice Al l.length cl), (6, .int .i64 ((l.length : Nat) : Int)), (7, .int .i64 ((j : Nat) : Int)), (3, .int .i64 ((j : Nat) : Int)), (4, .int .i64 (((i + 1) : Nat) : Int))] ⟨rfl, rfl, rfl, rfl, rfl, trivial⟩ ?_
                refine To.only [0] rfl ?_
                refine To.again (j - (i + 1)) (by omega) ⟨i + 1, rfl, rfl, rfl, (by omega), (fun i2 x2 y2 h1 h3 h4 => by
                    by_cases e : i2 = i
                    · subst e
                      obtain rfl := Option.some.inj (hx.symm.trans h3)
                      obtain rfl := Option.some.inj (hy.symm.trans h4)
                      simp [Ev.bad, c73, g26, g39, g49, g63]
                    · exact hI i2 x2 y2 (by omega) h3 h4)⟩
          ·
            refine FlowS.skip (by decide) rfl rfl rfl rfl ?_
            refine FlowS.skip (by decide) rfl rfl rfl rfl ?_
            refine FlowS.skip (by decide) rfl rfl rfl rfl ?_
            refine FlowS.skip (by decide) rfl rfl rfl rfl ?_
            refine FlowS.skip (by decide) rfl rfl rfl rfl ?_
            refine FlowS.skip (by decide) rfl rfl rfl rfl ?_
            refine FlowS.skip (by decide) rfl rfl rfl rfl ?_
            refine FlowS.skip (by decide) rfl rfl rfl rfl ?_
            refine FlowS.skip (by decide) rfl rfl rfl rfl ?_
            refine FlowS.skip (by decide) rfl rfl rfl rfl ?_
            refine FlowS.skip (by decide) rfl rfl rfl rfl ?_
            refine FlowS.free rfl rfl rfl rfl (Rd.pickF rfl rfl rfl) ?_
            refine FlowS.free rfl rfl rfl rfl (Rd.pickF rfl rfl rfl) ?_
            refine FlowS.free rfl rfl rfl rfl (Rd.move rfl rfl) ?_
            refine FlowS.free rfl rfl rfl rfl (Rd.move rfl rfl) ?_
            refine FlowS.free rfl rfl rfl rfl (Rd.move rfl rfl) ?_
            refine FlowS.free rfl rfl rfl rfl (Rd.move rfl rfl) ?_
            refine FlowS.free rfl rfl rfl rfl (Rd.move rfl rfl) ?_
            refine FlowS.rd rfl rfl rfl rfl (Rd.indexRos encE (i := 0) (j := i) rfl rfl rfl s22 rfl hx) ?_
            refine FlowS.rd rfl rfl rfl rfl (Rd.loadS (i := 0) rfl rfl r37 rfl (ros_gives encE hx) (encE.len _)) ?_
            refine FlowS.rd rfl rfl rfl rfl (Rd.indexRos encE (i := 0) (j := j) rfl rfl rfl s22 rfl hy) ?_
            refine FlowS.rd rfl rfl rfl rfl (Rd.loadS (i := 0) rfl rfl r37 rfl (ros_gives encE hy) (encE.len _)) ?_
            refine FlowS.callQ rfl rfl rfl rfl (Ent.fn rfl rfl ca40) (arrival_fn x y) rfl (oks_nil _) ?_
            refine FlowS.free rfl rfl rfl rfl (Rd.pickF rfl rfl rfl) ?_
            refine FlowS.fin ?_
            refine To.as [ros Ev.cells Al l] rfl ?_
            refine To.sub [(0, .slice Al l.length cl), (6, .int .i64 ((l.length : Nat) : Int)), (7, .int .i64 ((j : Nat) : Int)), (3, .int .i64 ((j : Nat) : Int)), (4, .int .i64 ((i : Nat) : Int)), (12, .bool (decide (((i : Nat) : Int) < ((j : Nat) : Int)))), (73, .bool (x.arr y))] ⟨rfl, rfl, rfl, rfl, rfl, rfl, rfl, trivial⟩ ?_
            refine To.thenN ?_
            refine To.cond rfl (fun c73 => ?_) (fun c73 => ?_)
            ·
              refine To.seq ?_
              refine To.reg ?_
              refine To.rd rfl rfl rfl (Rd.assign rfl rfl) ?_
              refine To.nil ?_
              refine To.thenN ?_
              refine To.ret ?_
              refine To.blockR ?_
              refine To.thenR ?_
              refine To.thenR ?_
              refine To.blockR ?_
              refine To.blockR ?_
              refine To.thenR ?_
              refine To.thenR ?_
              refine To.blockR ?_
              refine To.thenR ?_
              refine To.end1 (.inl rfl) Try.results29 rfl ?_
              refine ⟨false, rfl, fun h => (by cases h), fun h => ?_⟩
              have hb := h i j x y (by omega) (by omega) hx hy
              simp [Ev.bad, c73, g26, g39, g49] at hb
            ·
              refine To.skip ?_
              refine To.blockN ?_
              refine To.thenN ?_
              refine To.reg ?_
              refine To.rd rfl rfl rfl (Rd.move rfl rfl) ?_
              refine To.rd rfl rfl rfl (Rd.inc rfl rfl rfl (by omega)) ?_
              refine To.rd rfl rfl rfl (Rd.assign rfl rfl) ?_
              refine To.nil ?_
              refine To.thenN ?_
              refine To.sub [(0, .slice Al l.length cl), (6, .int .i64 ((l.length : Nat) : Int)), (7, .int .i64 ((j : Nat) : Int)), (3, .int .i64 ((j : Nat) : Int)), (4, .int .i64 (((i + 1) : Nat) : Int))] ⟨rfl, rfl, rfl, rfl, rfl, trivial⟩ ?_
              refine To.only [0] rfl ?_
              refine To.again (j - (i + 1)) (by omega) ⟨i + 1, rfl, rfl, rfl, (by omega), (fun i2 x2 y2 h1 h3 h4 => by
                  by_cases e : i2 = i
                  · subst e
                    obtain rfl := Option.some.inj (hx.symm.trans h3)
                    obtain rfl := Option.some.inj (hy.symm.trans h4)
                    simp [Ev.bad, c73, g26, g39, g49]
                  · exact hI i2 x2 y2 (by omega) h3 h4)⟩
      ·
        refine FlowS.skip (by decide) rfl rfl rfl rfl ?_
        refine FlowS.skip (by decide) rfl rfl rfl rfl ?_
        refine FlowS.skip (by decide) rfl rfl rfl rfl ?_
        refine FlowS.skip (by decide) rfl rfl rfl rfl ?_
        refine FlowS.skip (by decide) rfl rfl rfl rfl ?_
        refine FlowS.skip (by decide) rfl rfl rfl rfl ?_
        refine FlowS.skip (by decide) rfl rfl rfl rfl ?_
        refine FlowS.skip (by decide) rfl rfl rfl rfl ?_
        refine FlowS.skip (by decide) rfl rfl rfl rfl ?_
        refine FlowS.skip (by decide) rfl rfl rfl rfl ?_
        refine FlowS.skip (by decide) rfl rfl rfl rfl ?_
        refine FlowS.free rfl rfl rfl rfl (Rd.pickF rfl rfl rfl) ?_
        refine FlowS.free rfl rfl rfl rfl (Rd.move rfl rfl) ?_
        refine FlowS.free rfl rfl rfl rfl (Rd.move rfl rfl) ?_
        refine FlowS.free rfl rfl rfl rfl (Rd.move rfl rfl) ?_
        refine FlowS.free rfl rfl rfl rfl (Rd.move rfl rfl) ?_
        refine FlowS.free rfl rfl rfl rfl (Rd.move rfl rfl) ?_
        refine FlowS.rd rfl rfl rfl rfl (Rd.indexRos encE (i := 0) (j := j) rfl rfl rfl s22 rfl hy) ?_
        refine FlowS.rd rfl rfl rfl rfl (Rd.loadS (i := 0) rfl rfl r37 rfl (ros_gives encE hy) (encE.len _)) ?_
        refine FlowS.rd rfl rfl rfl rfl (Rd.indexRos encE (i := 0) (j := i) rfl rfl rfl s22 rfl hx) ?_
        refine FlowS.rd rfl rfl rfl rfl (Rd.loadS (i := 0) rfl rfl r37 rfl (ros_gives encE hx) (encE.len _)) ?_
        refine FlowS.callQ rfl rfl rfl rfl (Ent.fn rfl rfl ca40) (arrival_fn y x) rfl (oks_nil _) ?_
        refine FlowS.rdB rfl rfl rfl rfl (Rd.move rfl rfl) (fun g49 => ?_) (fun g49 => ?_)
        ·
          refine FlowS.free rfl rfl rfl rfl (Rd.move rfl rfl) ?_
          refine FlowS.free rfl rfl rfl rfl (Rd.move rfl rfl) ?_
          refine FlowS.free rfl rfl rfl rfl (Rd.move rfl rfl) ?_
          refine FlowS.free rfl rfl rfl rfl (Rd.move rfl rfl) ?_
          refine FlowS.rd rfl rfl rfl rfl (Rd.indexRos encE (i := 0) (j := j) rfl rfl rfl s22 rfl hy) ?_
          refine FlowS.free rfl rfl rfl rfl (Rd.field rfl rfl fl37_0) ?_
          refine FlowS.rd rfl rfl rfl rfl (Rd.load (i := 0) rfl rfl c3 rfl (gives_at (f := 0) (ros_gives encE hy) rfl)) ?_
          refine FlowS.rd rfl rfl rfl rfl (Rd.indexRos encE (i := 0) (j := i) rfl rfl rfl s22 rfl hx) ?_
          refine FlowS.free rfl rfl rfl rfl (Rd.field rfl rfl fl37_0) ?_
          refine FlowS.rd rfl rfl rfl rfl (Rd.load (i := 0) rfl rfl c3 rfl (gives_at (f := 0) (ros_gives encE hx) rfl)) ?_
          refine FlowS.free rfl rfl rfl rfl (Rd.leq rfl rfl rfl) ?_
          refine FlowS.free rfl rfl rfl rfl (Rd.pickT rfl rfl rfl) ?_
          refine FlowS.free rfl rfl rfl rfl (Rd.pickF rfl rfl rfl) ?_
          refine FlowS.rdP rfl rfl rfl rfl (Rd.move rfl rfl) (fun g63 => ?_) (fun g63 => ?_)
          ·
            refine FlowS.skip (by decide) rfl rfl rfl rfl ?_
            refine FlowS.skip (by decide) rfl rfl rfl rfl ?_
            refine FlowS.skip (by decide) rfl rfl rfl rfl ?_
            refine FlowS.skip (by decide) rfl rfl rfl rfl ?_
            refine FlowS.skip (by decide) rfl rfl rfl rfl ?_
            refine FlowS.skip (by decide) rfl rfl rfl rfl ?_
            refine FlowS.skip (by decide) rfl rfl rfl rfl ?_
            refine FlowS.skip (by decide) rfl rfl rfl rfl ?_
            refine FlowS.skip (by decide) rfl rfl rfl rfl ?_
            refine FlowS.free rfl rfl rfl rfl (Rd.pickT rfl rfl rfl) ?_
            refine FlowS.fin ?_
            refine To.as [ros Ev.cells Al l] rfl ?_
            refine To.sub [(0, .slice Al l.length cl), (6, .int .i64 ((l.length : Nat) : Int)), (7, .int .i64 ((j : Nat) : Int)), (3, .int .i64 ((j : Nat) : Int)), (4, .int .i64 ((i : Nat) : Int)), (12, .bool (decide (((i : Nat) : Int) < ((j : Nat) : Int)))), (73, .bool true)] ⟨rfl, rfl, rfl, rfl, rfl, rfl, rfl, trivial⟩ ?_
            refine To.thenN ?_
            refine To.condT rfl ?_
            refine To.seq ?_
            refine To.reg ?_
            refine To.rd rfl rfl rfl (Rd.assign rfl rfl) ?_
            refine To.nil ?_
            refine To.thenN ?_
            refine To.ret ?_
            refine To.blockR ?_
            refine To.thenR ?_
            refine To.thenR ?_
            refine To.blockR ?_
            refine To.blockR ?_
            refine To.thenR ?_
            refine To.thenR ?_
            refine To.blockR ?_
            refine To.thenR ?_
            refine To.end1 (.inl rfl) Try.results29 rfl ?_
            refine ⟨false, rfl, fun h => (by cases h), fun h => ?_⟩
            have hb := h i j x y (by omega) (by omega) hx hy
            simp [Ev.bad, g26, g49, g63] at hb
          ·
            refine FlowS.free rfl rfl rfl rfl (Rd.move rfl rfl) ?_
            refine FlowS.free rfl rfl rfl rfl (Rd.move rfl rfl) ?_
            refine FlowS.free rfl rfl rfl rfl (Rd.move rfl rfl) ?_
            refine FlowS.free rfl rfl rfl rfl (Rd.move rfl rfl) ?_
            refine FlowS.rd rfl rfl rfl rfl (Rd.indexRos encE (i := 0) (j := i) rfl rfl rfl s22 rfl hx) ?_
            refine FlowS.rd rfl rfl rfl rfl (Rd.loadS (i := 0) rfl rfl r37 rfl (ros_gives encE hx) (encE.len _)) ?_
            refine FlowS.rd rfl rfl rfl rfl (Rd.indexRos encE (i := 0) (j := j) rfl rfl rfl s22 rfl hy) ?_
            refine FlowS.rd rfl rfl rfl rfl (Rd.loadS (i := 0) rfl rfl r37 rfl (ros_gives encE hy) (encE.len _)) ?_
            refine FlowS.callQ rfl rfl rfl rfl (Ent.fn rfl rfl ca40) (arrival_fn x y) rfl (oks_nil _) ?_
            refine FlowS.free rfl rfl rfl rfl (Rd.pickF rfl rfl rfl) ?_
            refine FlowS.fin ?_
            refine To.as [ros Ev.cells Al l] rfl ?_
            refine To.sub [(0, .slice Al l.length cl), (6, .int .i64 ((l.length : Nat) : Int)), (7, .int .i64 ((j : Nat) : Int)), (3, .int .i64 ((j : Nat) : Int)), (4, .int .i64 ((i : Nat) : Int)), (12, .bool (decide (((i : Nat) : Int) < ((j : Nat) : Int)))), (73, .bool (x.arr y))] ⟨rfl, rfl, rfl, rfl, rfl, rfl, rfl, trivial⟩ ?_
            refine To.thenN ?_
            refine To.cond rfl (fun c73 => ?_) (fun c73 => ?_)
            ·
              refine To.seq ?_
              refine To.reg ?_
              refine To.rd rfl rfl rfl (Rd.assign rfl rfl) ?_
              refine To.nil ?_
              refine To.thenN ?_
              refine To.ret ?_
              refine To.blockR ?_
              refine To.thenR ?_
              refine To.thenR ?_
              refine To.blockR ?_
              refine To.blockR ?_
              refine To.thenR ?_
              refine To.thenR ?_
              refine To.blockR ?_
              refine To.thenR ?_
              refine To.end1 (.inl rfl) Try.results29 rfl ?_
              refine ⟨false, rfl, fun h => (by cases h), fun h => ?_⟩
              have hb := h i j x y (by omega) (by omega) hx hy
              simp [Ev.bad, c73, g26, g49, g63] at hb
            ·
              refine To.skip ?_
              refine To.blockN ?_
              refine To.thenN ?_
              refine To.reg ?_
              refine To.rd rfl rfl rfl (Rd.move rfl rfl) ?_
              refine To.rd rfl rfl rfl (Rd.inc rfl rfl rfl (by omega)) ?_
              refine To.rd rfl rfl rfl (Rd.assign rfl rfl) ?_
              refine To.nil ?_
              refine To.thenN ?_
              refine To.sub [(0, .slice Al l.length cl), (6, .int .i64 ((l.length : Nat) : Int)), (7, .int .i64 ((j : Nat) : Int)), (3, .int .i64 ((j : Nat) : Int)), (4, .int .i64 (((i + 1) : Nat) : Int))] ⟨rfl, rfl, rfl, rfl, rfl, trivial⟩ ?_
              refine To.only [0] rfl ?_
              refine To.again (j - (i + 1)) (by omega) ⟨i + 1, rfl, rfl, rfl, (by omega), (fun i2 x2 y2 h1 h3 h4 => by
                  by_cases e : i2 = i
                  · subst e
                    obtain rfl := Option.some.inj (hx.symm.trans h3)
                    obtain rfl := Option.some.inj (hy.symm.trans h4)
                    simp [Ev.bad, c73, g26, g49, g63]
                  · exact hI i2 x2 y2 (by omega) h3 h4)⟩
        ·
          refine FlowS.skip (by decide) rfl rfl rfl rfl ?_
          refine FlowS.skip (by decide) rfl rfl rfl rfl ?_
          refine FlowS.skip (by decide) rfl rfl rfl rfl ?_
          refine FlowS.skip (by decide) rfl rfl rfl rfl ?_
          refine FlowS.skip (by decide) rfl rfl rfl rfl ?_
          refine FlowS.skip (by decide) rfl rfl rfl rfl ?_
          refine FlowS.skip (by decide) rfl rfl rfl rfl ?_
          refine FlowS.skip (by decide) rfl rfl rfl rfl ?_
          refine FlowS.skip (by decide) rfl rfl rfl rfl ?_
          refine FlowS.skip (by decide) rfl rfl rfl rfl ?_
          refine FlowS.skip (by decide) rfl rfl rfl rfl ?_
          refine FlowS.free rfl rfl rfl rfl (Rd.pickF rfl rfl rfl) ?_
          refine FlowS.free rfl rfl rfl rfl (Rd.pickF rfl rfl rfl) ?_
          refine FlowS.free rfl rfl rfl rfl (Rd.move rfl rfl) ?_
          refine FlowS.free rfl rfl rfl rfl (Rd.move rfl rfl) ?_
          refine FlowS.free rfl rfl rfl rfl (Rd.move rfl rfl) ?_
          refine FlowS.free rfl rfl rfl rfl (Rd.move rfl rfl) ?_
          refine FlowS.free rfl rfl rfl rfl (Rd.move rfl rfl) ?_
          refine FlowS.rd rfl rfl rfl rfl (Rd.indexRos encE (i := 0) (j := i) rfl rfl rfl s22 rfl hx) ?_
          refine FlowS.rd rfl rfl rfl rfl (Rd.loadS (i := 0) rfl rfl r37 rfl (ros_gives encE hx) (encE.len _)) ?_
          refine FlowS.rd rfl rfl rfl rfl (Rd.indexRos encE (i := 0) (j := j) rfl rfl rfl s22 rfl hy) ?_
          refine FlowS.rd rfl rfl rfl rfl (Rd.loadS (i := 0) rfl rfl r37 rfl (ros_gives encE hy) (encE.len _)) ?_
          refine FlowS.callQ rfl rfl rfl rfl (Ent.fn rfl rfl ca40) (arrival_fn x y) rfl (oks_nil _) ?_
          refine FlowS.free rfl rfl rfl rfl (Rd.pickF rfl rfl rfl) ?_
          refine FlowS.fin ?_
          refine To.as [ros Ev.cells Al l] rfl ?_
          refine To.sub [(0, .slice Al l.length cl), (6, .int .i64 ((l.length : Nat) : Int)), (7, .int .i64 ((j : Nat) : Int)), (3, .int .i64 ((j : Nat) : Int)), (4, .int .i64 ((i : Nat) : Int)), (12, .bool (decide (((i : Nat) : Int) < ((j : Nat) : Int)))), (73, .bool (x.arr y))] ⟨rfl, rfl, rfl, rfl, rfl, rfl, rfl, trivial⟩ ?_
          refine To.thenN ?_
          refine To.cond rfl (fun c73 => ?_) (fun c73 => ?_)
          ·
            refine To.seq ?_
            refine To.reg ?_
            refine To.rd rfl rfl rfl (Rd.assign rfl rfl) ?_
            refine To.nil ?_
            refine To.thenN ?_
            refine To.ret ?_
            refine To.blockR ?_
            refine To.thenR ?_
            refine To.thenR ?_
            refine To.blockR ?_
            refine To.blockR ?_
            refine To.thenR ?_
            refine To.thenR ?_
            refine To.blockR ?_
            refine To.thenR ?_
            refine To.end1 (.inl rfl) Try.results29 rfl ?_
            refine ⟨false, rfl, fun h => (by cases h), fun h => ?_⟩
            have hb := h i j x y (by omega) (by omega) hx hy
            simp [Ev.bad, c73, g26, g49] at hb
          ·
            refine To.skip ?_
            refine To.blockN ?_
            refine To.thenN ?_
            refine To.reg ?_
            refine To.rd rfl rfl rfl (Rd.move rfl rfl) ?_
            refine To.rd rfl rfl rfl (Rd.inc rfl rfl rfl (by omega)) ?_
            refine To.rd rfl rfl rfl (Rd.assign rfl rfl) ?_
            refine To.nil ?_
            refine To.thenN ?_
            refine To.sub [(0, .slice Al l.length cl), (6, .int .i64 ((l.length : Nat) : Int)), (7, .int .i64 ((j : Nat) : Int)), (3, .int .i64 ((j : Nat) : Int)), (4, .int .i64 (((i + 1) : Nat) : Int))] ⟨rfl, rfl, rfl, rfl, rfl, trivial⟩ ?_
            refine To.only [0] rfl ?_
            refine To.again (j - (i + 1)) (by omega) ⟨i + 1, rfl, rfl, rfl, (by omega), (fun i2 x2 y2 h1 h3 h4 => by
                by_cases e : i2 = i
                · subst e
                  obtain rfl := Option.some.inj (hx.symm.trans h3)
                  obtain rfl := Option.some.inj (hy.symm.trans h4)
                  simp [Ev.bad, c73, g26, g49]
                · exact hI i2 x2 y2 (by omega) h3 h4)⟩
    ·
      refine To.exit ?_
      refine To.thenX ?_
      refine To.thenX ?_
      refine To.blockX ?_
      refine To.blockN ?_
      refine To.thenN ?_
      refine To.reg ?_
      refine To.rd rfl rfl rfl (Rd.inc rfl rfl rfl (by omega)) ?_
      refine To.rd rfl rfl rfl (Rd.move rfl rfl) ?_
      refine To.nil ?_
      refine To.thenN ?_
      refine To.sub [(0, .slice Al l.length cl), (6, .int .i64 ((l.length : Nat) : Int)), (7, .int .i64 (((j + 1) : Nat) : Int))] ⟨rfl, rfl, rfl, trivial⟩ ?_
      refine To.only [0] rfl ?_
      refine To.again (l.length - (j + 1)) (by omega) ⟨j + 1, rfl, rfl, rfl, (by omega), (fun i2 j2 x2 y2 h1 h2 h3 h4 => by
          by_cases e : j2 = j
          · subst e; exact hI i2 x2 y2 (by omega) h3 h4
          · exact hJ i2 j2 x2 y2 h1 (by omega) h3 h4)⟩
  ·
    refine To.exit ?_
    refine To.thenX ?_
    refine To.thenX ?_
    refine To.blockX ?_
    refine To.thenN ?_
    refine To.seq ?_
    refine To.reg ?_
    refine To.rd rfl rfl rfl (Rd.assign rfl rfl) ?_
    refine To.nil ?_
    refine To.thenN ?_
    refine To.ret ?_
    refine To.end1 (.inl rfl) Try.results29 rfl ?_
    obtain rfl : j = l.length := by omega
    exact ⟨true, rfl, fun _ => hJ, fun _ => rfl⟩
end Go.Proofs.Ytneimfacccgaeaa

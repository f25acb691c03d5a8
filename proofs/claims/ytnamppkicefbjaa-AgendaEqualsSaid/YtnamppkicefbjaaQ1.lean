/- The walks of the agenda's Equal. Own text (walks printed by sx.py). -/
import Derived.Test.YtnamppkicefbjaaC2
namespace Go.Proofs.Ytnamppkicefbjaa
open Go.RowKit Go.Flow Go.Mem Go.Sep
theorem bare_iff (x y : En) : x.bare = y.bare ↔ x.t = y.t ∧ x.s = y.s ∧ x.c = y.c ∧ x.p = y.p ∧ x.n = y.n ∧ x.k = y.k ∧ x.h = y.h ∧ x.args = y.args := by
  obtain ⟨t, s, c, p, n, k, h, args, A, cap⟩ := x
  obtain ⟨t', s', c', p', n', k', h', args', A', cap'⟩ := y
  simp [En.bare]
theorem eq_step {α β : Type} {f : α → β} {M W : List α} {i : Nat} {x y : α} (hx : M[i]? = some x) (hy : W[i]? = some y) (h : (M.take i).map f = (W.take i).map f) (hxy : f x = f y) : (M.take (i + 1)).map f = (W.take (i + 1)).map f := by
  rw [take_of_get hx, take_of_get hy, List.map_append, List.map_append, h]; simp [hxy]
theorem eq_no {α β : Type} {f : α → β} {M W : List α} {i : Nat} {x y : α} (hx : M[i]? = some x) (hy : W[i]? = some y) (hxy : f x ≠ f y) : M.map f ≠ W.map f := fun h => by
  have h1 : (M.map f)[i]? = (W.map f)[i]? := by rw [h]
  simp [hx, hy] at h1
  exact hxy h1
theorem eq_len {α β : Type} {f : α → β} {M W : List α} (h : M.length ≠ W.length) : M.map f ≠ W.map f := fun e => by
  have := congrArg List.length e; simp at this; exact h this
theorem eq_all {α β : Type} {f : α → β} {M W : List α} {i : Nat} (hl : M.length = W.length) (hi : i = M.length) (h : (M.take i).map f = (W.take i).map f) : M.map f = W.map f := by
  subst hi
  rw [List.take_length, hl, List.take_length] at h; exact h
set_option maxHeartbeats 2000000 in
set_option maxRecDepth 100000 in
theorem eqInts_fn (A B : Option Addr) (p q : Nat) (xs ys : List Int) (hl : xs.length ≤ 1000000000000) :
    Does Try.prog 46 [.slice A xs.length p, .slice B ys.length q] [ros encI A xs, ros encI B ys] (fun v _ => v = .bool (decide (xs = ys))) := by
  refine Does.enter Try.func46 rfl Try.ntmps46 rfl (fun w0 => ?_)
  refine To.seq ?_
  refine To.reg ?_
  refine To.rd rfl rfl rfl (Rd.assign rfl rfl) ?_
  refine To.nil ?_
  refine To.thenN ?_
  refine To.seq ?_
  refine To.seq ?_
  refine To.reg ?_
  refine To.rd rfl rfl rfl (Rd.move rfl rfl) ?_
  refine To.rd rfl rfl rfl (Rd.len rfl rfl Try.underlying28) ?_
  refine To.rd rfl rfl rfl (Rd.move rfl rfl) ?_
  refine To.rd rfl rfl rfl (Rd.len rfl rfl Try.underlying28) ?_
  refine To.rd rfl rfl rfl (Rd.neq rfl rfl rfl) ?_
  refine To.nil ?_
  refine To.thenN ?_
  refine To.condP rfl (fun c10 => ?_) (fun c10 => ?_)
  ·
    refine To.seq ?_
    refine To.reg ?_
    refine To.rd rfl rfl rfl (Rd.assign rfl rfl) ?_
    refine To.nil ?_
    refine To.thenN ?_
    refine To.ret ?_
    refine To.thenR ?_
    refine To.end1 (.inl rfl) Try.results46 rfl ?_
    have := eq_len (f := id) (M := xs) (W := ys) (by omega)
    simp at this
    simp [this]
  ·
    refine To.skip ?_
    refine To.thenN ?_
    refine To.seq ?_
    refine To.seq ?_
    refine To.reg ?_
    refine To.rd rfl rfl rfl (Rd.move rfl rfl) ?_
    refine To.rd rfl rfl rfl (Rd.len rfl rfl Try.underlying28) ?_
    refine To.rd rfl rfl rfl (Rd.move rfl rfl) ?_
    refine To.nil ?_
    refine To.thenN ?_
    refine To.block ?_
    refine To.sub [(0, .slice A xs.length p), (1, .slice B ys.length q), (12, .int .i64 ((xs.length : Nat) : Int)), (13, .int .i64 ((0 : Nat) : Int))] ⟨rfl, rfl, rfl, rfl, trivial⟩ ?_
    refine To.only [0, 0] rfl ?_
    refine To.loop (fun m ρ Γ => ∃ (i : Nat), ρ = [(0, .slice A xs.length p), (1, .slice B ys.length q), (12, .int .i64 ((xs.length : Nat) : Int)), (13, .int .i64 ((i : Nat) : Int))] ∧ Γ = [ros encI A xs, ros encI B ys] ∧ m = xs.length - i ∧ (i ≤ xs.length) ∧ ((xs.take i).map id = (ys.take i).map id)) (xs.length - 0) ⟨0, rfl, rfl, rfl, (Nat.zero_le _), rfl⟩ ?_
    rintro m _ _ ⟨i, rfl, rfl, rfl, hi, hI⟩
    refine To.seq ?_
    refine To.reg ?_
    refine To.rd rfl rfl rfl (Rd.lss rfl rfl rfl) ?_
    refine To.nil ?_
    refine To.thenN ?_
    refine To.seq ?_
    refine To.condP rfl (fun c14 => ?_) (fun c14 => ?_)
    ·
      obtain ⟨x, hx⟩ : ∃ y, xs[i]? = some y := ⟨xs[i]'(by omega), List.getElem?_eq_getElem _⟩
      obtain ⟨y, hy⟩ : ∃ y, ys[i]? = some y := ⟨ys[i]'(by omega), List.getElem?_eq_getElem _⟩
      refine To.skip ?_
      refine To.thenN ?_
      refine To.seq ?_
      refine To.block ?_
      refine To.seq ?_
      refine To.reg ?_
      refine To.rd rfl rfl rfl (Rd.move rfl rfl) ?_
      refine To.rd rfl rfl rfl (Rd.assign rfl rfl) ?_
      refine To.nil ?_
      refine To.thenN ?_
      refine To.seq ?_
      refine To.flow [] [⟨0, [], 0⟩, ⟨1, [], 0⟩, ⟨4, [], 0⟩, ⟨5, [], 0⟩, ⟨2, [], 1⟩, ⟨3, [], 1⟩, ⟨6, [], 1⟩, ⟨7, [], 1⟩, ⟨8, [], 0⟩] mixed (by kernel_rfl) (oks_nil _) ?_
      refine FlowS.free rfl rfl rfl rfl (Rd.move rfl rfl) ?_
      refine FlowS.free rfl rfl rfl rfl (Rd.move rfl rfl) ?_
      refine FlowS.free rfl rfl rfl rfl (Rd.move rfl rfl) ?_
      refine FlowS.free rfl rfl rfl rfl (Rd.move rfl rfl) ?_
      refine FlowS.rd rfl rfl rfl rfl (Rd.indexRos encI_ok (i := 0) (j := i) rfl rfl rfl s28 rfl hx) ?_
      refine FlowS.rd rfl rfl rfl rfl (Rd.load (i := 0) rfl rfl c2 rfl (gives_1 (ros_gives encI_ok hx) rfl)) ?_
      refine FlowS.rd rfl rfl rfl rfl (Rd.indexRos encI_ok (i := 1) (j := i) rfl rfl rfl s28 rfl hy) ?_
      refine FlowS.rd rfl rfl rfl rfl (Rd.load (i := 1) rfl rfl c2 rfl (gives_1 (ros_gives encI_ok hy) rfl)) ?_
      refine FlowS.free rfl rfl rfl rfl (Rd.neq rfl rfl rfl) ?_
      refine FlowS.fin ?_
      refine To.as [ros encI A xs, ros encI B ys] rfl ?_
      refine To.thenN ?_
      refine To.condP rfl (fun c24 => ?_) (fun c24 => ?_)
      ·
        refine To.seq ?_
        refine To.reg ?_
        refine To.rd rfl rfl rfl (Rd.assign rfl rfl) ?_
        refine To.nil ?_
        refine To.thenN ?_
        refine To.ret ?_
        refine To.blockR ?_
        refine To.thenR ?_
        refine To.thenR ?_
        refine To.blockR ?_
        refine To.thenR ?_
        refine To.end1 (.inl rfl) Try.results46 rfl ?_
        have := eq_no (f := id) hx hy c24
        simp at this
        simp [this]
      ·
        refine To.skip ?_
        refine To.blockN ?_
        refine To.thenN ?_
        refine To.reg ?_
        refine To.rd rfl rfl rfl (Rd.inc rfl rfl rfl (by omega)) ?_
        refine To.rd rfl rfl rfl (Rd.move rfl rfl) ?_
        refine To.nil ?_
        refine To.thenN ?_
        refine To.sub [(0, .slice A xs.length p), (1, .slice B ys.length q), (12, .int .i64 ((xs.length : Nat) : Int)), (13, .int .i64 (((i + 1) : Nat) : Int))] ⟨rfl, rfl, rfl, rfl, trivial⟩ ?_
        refine To.only [0, 0] rfl ?_
        refine To.again (xs.length - (i + 1)) (by omega) ⟨i + 1, rfl, rfl, rfl, (by omega), (eq_step hx hy hI (by simpa using c24))⟩
    ·
      refine To.exit ?_
      refine To.thenX ?_
      refine To.thenX ?_
      refine To.blockX ?_
      refine To.thenN ?_
      refine To.seq ?_
      refine To.reg ?_
      refine To.rd rfl rfl rfl (Rd.assign rfl rfl) ?_
      refine To.nil ?_
      refine To.thenN ?_
      refine To.ret ?_
      refine To.end1 (.inl rfl) Try.results46 rfl ?_
      have := eq_all (by omega) (by omega) hI
      simp at this
      simp [this]
set_option maxHeartbeats 2000000 in
set_option maxRecDepth 100000 in
theorem eqEn_fn (e f : En) (hl : e.args.length ≤ 1000000000000) :
    Does Try.prog 45 [.agg (En.cells e).toArray, .agg (En.cells f).toArray] [ros encI e.A e.args, ros encI f.A f.args] (fun v _ => v = .bool (decide (e.bare = f.bare))) := by
  refine Does.enter Try.func45 rfl Try.ntmps45 rfl (fun w0 => ?_)
  refine To.seq ?_
  refine To.reg ?_
  refine To.boxed rfl rfl rfl rfl rfl rfl (fun b2 => ?_)
  refine To.boxed rfl rfl rfl rfl rfl rfl (fun b3 => ?_)
  refine To.rd rfl rfl rfl (Rd.assign rfl rfl) ?_
  refine To.nil ?_
  refine To.thenN ?_
  refine To.seq ?_
  refine To.flow [box b2 [.int .i64 e.t, .int .u8 e.s, .int .i64 e.c, .int .i64 e.p, .int .i64 e.n, .int .i64 e.k, .int .i64 e.h, .slice e.A e.args.length e.cap] 82, box b3 [.int .i64 f.t, .int .u8 f.s, .int .i64 f.c, .int .i64 f.p, .int .i64 f.n, .int .i64 f.k, .int .i64 f.h, .slice f.A f.args.length f.cap] 82] [⟨0, [], 0⟩, ⟨1, [], 0⟩, ⟨2, [], 0⟩, ⟨3, [], 0⟩, ⟨4, [], 2⟩, ⟨5, [], 2⟩, ⟨6, [4, 5], 5⟩, ⟨7, [], 5⟩] mixed (by kernel_rfl) (oks_cons (oks_at 1 rfl) (oks_cons (oks_at 0 rfl) (oks_nil _))) ?_
  refine FlowS.free rfl rfl rfl rfl (Rd.field rfl rfl fl82_1) ?_
  refine FlowS.free rfl rfl rfl rfl (Rd.loadS (i := 0) (us := [.int .u8 e.s, .int .i64 e.c, .int .i64 e.p, .int .i64 e.n, .int .i64 e.k, .int .i64 e.h, .slice e.A e.args.length e.cap]) rfl rfl r35 rfl (box_gives (n := 7) rfl) rfl) ?_
  refine FlowS.free rfl rfl rfl rfl (Rd.field rfl rfl fl82_1) ?_
  refine FlowS.free rfl rfl rfl rfl (Rd.loadS (i := 1) (us := [.int .u8 f.s, .int .i64 f.c, .int .i64 f.p, .int .i64 f.n, .int .i64 f.k, .int .i64 f.h, .slice f.A f.args.length f.cap]) rfl rfl r35 rfl (box_gives (n := 7) rfl) rfl) ?_
  refine FlowS.mk rfl rfl rfl rfl rfl (Mk.alloc rfl z35) ?_
  rintro _ _ ⟨b5, rfl, rfl⟩
  refine FlowS.mk rfl rfl rfl rfl rfl (Mk.alloc rfl z35) ?_
  rintro _ _ ⟨b6, rfl, rfl⟩
  refine FlowS.up (Γ' := [box b6 [.int .u8 0, .int .i64 0, .int .i64 0, .int .i64 0, .int .i64 0, .int .i64 0, .slice none 0 0] 35, box b5 [.int .u8 e.s, .int .i64 e.c, .int .i64 e.p, .int .i64 e.n, .int .i64 e.k, .int .i64 e.h, .slice e.A e.args.length e.cap] 35, box b3 [.int .i64 f.t, .int .u8 f.s, .int .i64 f.c, .int .i64 f.p, .int .i64 f.n, .int .i64 f.k, .int .i64 f.h, .slice f.A f.args.length f.cap] 82, box b2 [.int .i64 e.t, .int .u8 e.s, .int .i64 e.c, .int .i64 e.p, .int .i64 e.n, .int .i64 e.k, .int .i64 e.h, .slice e.A e.args.length e.cap] 82, ros encI e.A e.args, ros encI f.A f.args]) rfl rfl rfl (Up.storeS (i := 1) rfl rfl rfl r35 rfl rfl rfl (box_takesAll rfl)) (oks_cons (oks_at 3 rfl) (oks_cons (oks_at 2 rfl) (oks_nil _))) ?_
  refine FlowS.up (Γ' := [box b6 [.int .u8 f.s, .int .i64 f.c, .int .i64 f.p, .int .i64 f.n, .int .i64 f.k, .int .i64 f.h, .slice f.A f.args.length f.cap] 35, box b5 [.int .u8 e.s, .int .i64 e.c, .int .i64 e.p, .int .i64 e.n, .int .i64 e.k, .int .i64 e.h, .slice e.A e.args.length e.cap] 35, box b3 [.int .i64 f.t, .int .u8 f.s, .int .i64 f.c, .int .i64 f.p, .int .i64 f.n, .int .i64 f.k, .int .i64 f.h, .slice f.A f.args.length f.cap] 82, box b2 [.int .i64 e.t, .int .u8 e.s, .int .i64 e.c, .int .i64 e.p, .int .i64 e.n, .int .i64 e.k, .int .i64 e.h, .slice e.A e.args.length e.cap] 82, ros encI e.A e.args, ros encI f.A f.args]) rfl rfl rfl (Up.storeS (i := 0) rfl rfl rfl r35 rfl rfl rfl (box_takesAll rfl)) (oks_cons (oks_at 3 rfl) (oks_cons (oks_at 2 rfl) (oks_nil _))) ?_
  refine FlowS.fin ?_
  refine To.as [box b6 [.int .u8 f.s, .int .i64 f.c, .int .i64 f.p, .int .i64 f.n, .int .i64 f.k, .int .i64 f.h, .slice f.A f.args.length f.cap] 35, box b5 [.int .u8 e.s, .int .i64 e.c, .int .i64 e.p, .int .i64 e.n, .int .i64 e.k, .int .i64 e.h, .slice e.A e.args.length e.cap] 35, box b3 [.int .i64 f.t, .int .u8 f.s, .int .i64 f.c, .int .i64 f.p, .int .i64 f.n, .int .i64 f.k, .int .i64 f.h, .slice f.A f.args.length f.cap] 82, box b2 [.int .i64 e.t, .int .u8 e.s, .int .i64 e.c, .int .i64 e.p, .int .i64 e.n, .int .i64 e.k, .int .i64 e.h, .slice e.A e.args.length e.cap] 82, ros encI e.A e.args, ros encI f.A f.args] rfl ?_
  refine To.thenN ?_
  refine To.seq ?_
  refine To.reg ?_
  refine To.rd rfl rfl rfl (Rd.field rfl rfl fl82_0) ?_
  refine To.rd rfl rfl rfl (Rd.load (i := 3) rfl rfl c3 rfl (box_gives1 rfl)) ?_
  refine To.rd rfl rfl rfl (Rd.field rfl rfl fl82_0) ?_
  refine To.rd rfl rfl rfl (Rd.load (i := 2) rfl rfl c3 rfl (box_gives1 rfl)) ?_
  refine To.rd rfl rfl rfl (Rd.eql rfl rfl rfl) ?_
  refine To.rdP rfl rfl rfl (Rd.move rfl rfl) (fun g16 => ?_) (fun g16 => ?_)
  ·
    refine To.rd rfl rfl rfl (Rd.field rfl rfl fl35_0) ?_
    refine To.rd rfl rfl rfl (Rd.load (i := 1) rfl rfl c33 rfl (box_gives1 rfl)) ?_
    refine To.rd rfl rfl rfl (Rd.field rfl rfl fl35_0) ?_
    refine To.rd rfl rfl rfl (Rd.load (i := 0) rfl rfl c33 rfl (box_gives1 rfl)) ?_
    refine To.rd rfl rfl rfl (Rd.eql rfl rfl rfl) ?_
    refine To.rd rfl rfl rfl (Rd.pickT rfl rfl rfl) ?_
    refine To.rdP rfl rfl rfl (Rd.move rfl rfl) (fun g23 => ?_) (fun g23 => ?_)
    ·
      refine To.rd rfl rfl rfl (Rd.field rfl rfl fl35_1) ?_
      refine To.rd rfl rfl rfl (Rd.load (i := 1) rfl rfl c3 rfl (box_gives1 rfl)) ?_
      refine To.rd rfl rfl rfl (Rd.field rfl rfl fl35_1) ?_
      refine To.rd rfl rfl rfl (Rd.load (i := 0) rfl rfl c3 rfl (box_gives1 rfl)) ?_
      refine To.rd rfl rfl rfl (Rd.eql rfl rfl rfl) ?_
      refine To.rd rfl rfl rfl (Rd.pickT rfl rfl rfl) ?_
      refine To.rdP rfl rfl rfl (Rd.move rfl rfl) (fun g30 => ?_) (fun g30 => ?_)
      ·
        refine To.rd rfl rfl rfl (Rd.field rfl rfl fl35_2) ?_
        refine To.rd rfl rfl rfl (Rd.load (i := 1) rfl rfl c3 rfl (box_gives1 rfl)) ?_
        refine To.rd rfl rfl rfl (Rd.field rfl rfl fl35_2) ?_
        refine To.rd rfl rfl rfl (Rd.load (i := 0) rfl rfl c3 rfl (box_gives1 rfl)) ?_
        refine To.rd rfl rfl rfl (Rd.eql rfl rfl rfl) ?_
        refine To.rd rfl rfl rfl (Rd.pickT rfl rfl rfl) ?_
        refine To.rdP rfl rfl rfl (Rd.move rfl rfl) (fun g37 => ?_) (fun g37 => ?_)
        ·
          refine To.rd rfl rfl rfl (Rd.field rfl rfl fl35_3) ?_
          refine To.rd rfl rfl rfl (Rd.load (i := 1) rfl rfl c3 rfl (box_gives1 rfl)) ?_
          refine To.rd rfl rfl rfl (Rd.field rfl rfl fl35_3) ?_
          refine To.rd rfl rfl rfl (Rd.load (i := 0) rfl rfl c3 rfl (box_gives1 rfl)) ?_
          refine To.rd rfl rfl rfl (Rd.eql rfl rfl rfl) ?_
          refine To.rd rfl rfl rfl (Rd.pickT rfl rfl rfl) ?_
          refine To.rdP rfl rfl rfl (Rd.move rfl rfl) (fun g44 => ?_) (fun g44 => ?_)
          ·
            refine To.rd rfl rfl rfl (Rd.field rfl rfl fl35_4) ?_
            refine To.rd rfl rfl rfl (Rd.load (i := 1) rfl rfl c3 rfl (box_gives1 rfl)) ?_
            refine To.rd rfl rfl rfl (Rd.field rfl rfl fl35_4) ?_
            refine To.rd rfl rfl rfl (Rd.load (i := 0) rfl rfl c3 rfl (box_gives1 rfl)) ?_
            refine To.rd rfl rfl rfl (Rd.eql rfl rfl rfl) ?_
            refine To.rd rfl rfl rfl (Rd.pickT rfl rfl rfl) ?_
            refine To.rdP rfl rfl rfl (Rd.move rfl rfl) (fun g51 => ?_) (fun g51 => ?_)
            ·
              refine To.rd rfl rfl rfl (Rd.field rfl rfl fl35_5) ?_
              refine To.rd rfl rfl rfl (Rd.load (i := 1) rfl rfl c3 rfl (box_gives1 rfl)) ?_
              refine To.rd rfl rfl rfl (Rd.field rfl rfl fl35_5) ?_
              refine To.rd rfl rfl rfl (Rd.load (i := 0) rfl rfl c3 rfl (box_gives1 rfl)) ?_
              refine To.rd rfl rfl rfl (Rd.eql rfl rfl rfl) ?_
              refine To.rd rfl rfl rfl (Rd.pickT rfl rfl rfl) ?_
              refine To.rdP rfl rfl rfl (Rd.move rfl rfl) (fun g58 => ?_) (fun g58 => ?_)
              ·
                refine To.rd rfl rfl rfl (Rd.field rfl rfl fl35_6) ?_
                refine To.rd rfl rfl rfl (Rd.load (i := 1) rfl rfl c28 rfl (box_gives1 rfl)) ?_
                refine To.rd rfl rfl rfl (Rd.field rfl rfl fl35_6) ?_
                refine To.rd rfl rfl rfl (Rd.load (i := 0) rfl rfl c28 rfl (box_gives1 rfl)) ?_
                refine To.callV rfl rfl rfl (Ent.fn rfl rfl ca46) (eqInts_fn e.A f.A e.cap f.cap e.args f.args hl) rfl (oks_cons (oks_at 4 rfl) (oks_cons (oks_at 5 rfl) (oks_nil _))) ?_
                refine To.rd rfl rfl rfl (Rd.pickT rfl rfl rfl) ?_
                refine To.rd rfl rfl rfl (Rd.assign rfl rfl) ?_
                refine To.nil ?_
                refine To.sub [(0, .agg (En.cells e).toArray), (1, .agg (En.cells f).toArray), (2, .pointer (some ⟨b2, 0, none⟩)), (3, .pointer (some ⟨b3, 0, none⟩)), (4, .bool (decide (e.args = f.args))), (7, .pointer (some ⟨b2, 1, none⟩)), (8, .agg #[.int .u8 e.s, .int .i64 e.c, .int .i64 e.p, .int .i64 e.n, .int .i64 e.k, .int .i64 e.h, .slice e.A e.args.length e.cap]), (9, .pointer (some ⟨b3, 1, none⟩)), (10, .agg #[.int .u8 f.s, .int .i64 f.c, .int .i64 f.p, .int .i64 f.n, .int .i64 f.k, .int .i64 f.h, .slice f.A f.args.length f.cap]), (5, .pointer (some ⟨b5, 0, none⟩)), (6, .pointer (some ⟨b6, 0, none⟩))] ⟨rfl, rfl, rfl, rfl, rfl, rfl, rfl, rfl, rfl, rfl, rfl, trivial⟩ ?_
                refine To.thenN ?_
                refine To.ret ?_
                refine To.end1 (.inl rfl) Try.results45 rfl ?_
                refine congrArg Value.bool ?_
                simp [bare_iff, *]
              ·
                refine To.sk rfl rfl rfl ?_
                refine To.sk rfl rfl rfl ?_
                refine To.sk rfl rfl rfl ?_
                refine To.sk rfl rfl rfl ?_
                refine To.sk rfl rfl rfl ?_
                refine To.rd rfl rfl rfl (Rd.pickF rfl rfl rfl) ?_
                refine To.rd rfl rfl rfl (Rd.assign rfl rfl) ?_
                refine To.nil ?_
                refine To.sub [(0, .agg (En.cells e).toArray), (1, .agg (En.cells f).toArray), (2, .pointer (some ⟨b2, 0, none⟩)), (3, .pointer (some ⟨b3, 0, none⟩)), (4, .bool false), (7, .pointer (some ⟨b2, 1, none⟩)), (8, .agg #[.int .u8 e.s, .int .i64 e.c, .int .i64 e.p, .int .i64 e.n, .int .i64 e.k, .int .i64 e.h, .slice e.A e.args.length e.cap]), (9, .pointer (some ⟨b3, 1, none⟩)), (10, .agg #[.int .u8 f.s, .int .i64 f.c, .int .i64 f.p, .int .i64 f.n, .int .i64 f.k, .int .i64 f.h, .slice f.A f.args.length f.cap]), (5, .pointer (some ⟨b5, 0, none⟩)), (6, .pointer (some ⟨b6, 0, none⟩))] ⟨rfl, rfl, rfl, rfl, rfl, rfl, rfl, rfl, rfl, rfl, rfl, trivial⟩ ?_
                refine To.thenN ?_
                refine To.ret ?_
                refine To.end1 (.inl rfl) Try.results45 rfl ?_
                refine congrArg Value.bool ?_
                simp [bare_iff, *]
            ·
              refine To.sk rfl rfl rfl ?_
              refine To.sk rfl rfl rfl ?_
              refine To.sk rfl rfl rfl ?_
              refine To.sk rfl rfl rfl ?_
              refine To.sk rfl rfl rfl ?_
              refine To.rd rfl rfl rfl (Rd.pickF rfl rfl rfl) ?_
              refine To.rd rfl rfl rfl (Rd.move rfl rfl) ?_
              refine To.sk rfl rfl rfl ?_
              refine To.sk rfl rfl rfl ?_
              refine To.sk rfl rfl rfl ?_
              refine To.sk rfl rfl rfl ?_
              refine To.sk rfl rfl rfl ?_
              refine To.rd rfl rfl rfl (Rd.pickF rfl rfl rfl) ?_
              refine To.rd rfl rfl rfl (Rd.assign rfl rfl) ?_
              refine To.nil ?_
              refine To.sub [(0, .agg (En.cells e).toArray), (1, .agg (En.cells f).toArray), (2, .pointer (some ⟨b2, 0, none⟩)), (3, .pointer (some ⟨b3, 0, none⟩)), (4, .bool false), (7, .pointer (some ⟨b2, 1, none⟩)), (8, .agg #[.int .u8 e.s, .int .i64 e.c, .int .i64 e.p, .int .i64 e.n, .int .i64 e.k, .int .i64 e.h, .slice e.A e.args.length e.cap]), (9, .pointer (some ⟨b3, 1, none⟩)), (10, .agg #[.int .u8 f.s, .int .i64 f.c, .int .i64 f.p, .int .i64 f.n, .int .i64 f.k, .int .i64 f.h, .slice f.A f.args.length f.cap]), (5, .pointer (some ⟨b5, 0, none⟩)), (6, .pointer (some ⟨b6, 0, none⟩))] ⟨rfl, rfl, rfl, rfl, rfl, rfl, rfl, rfl, rfl, rfl, rfl, trivial⟩ ?_
              refine To.thenN ?_
              refine To.ret ?_
              refine To.end1 (.inl rfl) Try.results45 rfl ?_
              refine congrArg Value.bool ?_
              simp [bare_iff, *]
          ·
            refine To.sk rfl rfl rfl ?_
            refine To.sk rfl rfl rfl ?_
            refine To.sk rfl rfl rfl ?_
            refine To.sk rfl rfl rfl ?_
            refine To.sk rfl rfl rfl ?_
            refine To.rd rfl rfl rfl (Rd.pickF rfl rfl rfl) ?_
            refine To.rd rfl rfl rfl (Rd.move rfl rfl) ?_
            refine To.sk rfl rfl rfl ?_
            refine To.sk rfl rfl rfl ?_
            refine To.sk rfl rfl rfl ?_
            refine To.sk rfl rfl rfl ?_
            refine To.sk rfl rfl rfl ?_
            refine To.rd rfl rfl rfl (Rd.pickF rfl rfl rfl) ?_
            refine To.rd rfl rfl rfl (Rd.move rfl rfl) ?_
            refine To.sk rfl rfl rfl ?_
            refine To.sk rfl rfl rfl ?_
            refine To.sk rfl rfl rfl ?_
            refine To.sk rfl rfl rfl ?_
            refine To.sk rfl rfl rfl ?_
            refine To.rd rfl rfl rfl (Rd.pickF rfl rfl rfl) ?_
            refine To.rd rfl rfl rfl (Rd.assign rfl rfl) ?_
            refine To.nil ?_
            refine To.sub [(0, .agg (En.cells e).toArray), (1, .agg (En.cells f).toArray), (2, .pointer (some ⟨b2, 0, none⟩)), (3, .pointer (some ⟨b3, 0, none⟩)), (4, .bool false), (7, .pointer (some ⟨b2, 1, none⟩)), (8, .agg #[.int .u8 e.s, .int .i64 e.c, .int .i64 e.p, .int .i64 e.n, .int .i64 e.k, .int .i64 e.h, .slice e.A e.args.length e.cap]), (9, .pointer (some ⟨b3, 1, none⟩)), (10, .agg #[.int .u8 f.s, .int .i64 f.c, .int .i64 f.p, .int .i64 f.n, .int .i64 f.k, .int .i64 f.h, .slice f.A f.args.length f.cap]), (5, .pointer (some ⟨b5, 0, none⟩)), (6, .pointer (some ⟨b6, 0, none⟩))] ⟨rfl, rfl, rfl, rfl, rfl, rfl, rfl, rfl, rfl, rfl, rfl, trivial⟩ ?_
            refine To.thenN ?_
            refine To.ret ?_
            refine To.end1 (.inl rfl) Try.results45 rfl ?_
            refine congrArg Value.bool ?_
            simp [bare_iff, *]
        ·
          refine To.sk rfl rfl rfl ?_
          refine To.sk rfl rfl rfl ?_
          refine To.sk rfl rfl rfl ?_
          refine To.sk rfl rfl rfl ?_
          refine To.sk rfl rfl rfl ?_
          refine To.rd rfl rfl rfl (Rd.pickF rfl rfl rfl) ?_
          refine To.rd rfl rfl rfl (Rd.move rfl rfl) ?_
          refine To.sk rfl rfl rfl ?_
          refine To.sk rfl rfl rfl ?_
          refine To.sk rfl rfl rfl ?_
          refine To.sk rfl rfl rfl ?_
          refine To.sk rfl rfl rfl ?_
          refine To.rd rfl rfl rfl (Rd.pickF rfl rfl rfl) ?_
          refine To.rd rfl rfl rfl (Rd.move rfl rfl) ?_
          refine To.sk rfl rfl rfl ?_
          refine To.sk rfl rfl rfl ?_
          refine To.sk rfl rfl rfl ?_
          refine To.sk rfl rfl rfl ?_
          refine To.sk rfl rfl rfl ?_
          refine To.rd rfl rfl rfl (Rd.pickF rfl rfl rfl) ?_
          refine To.rd rfl rfl rfl (Rd.move rfl rfl) ?_
          refine To.sk rfl rfl rfl ?_
          refine To.sk rfl rfl rfl ?_
          refine To.sk rfl rfl rfl ?_
          refine To.sk rfl rfl rfl ?_
          refine To.sk rfl rfl rfl ?_
          refine To.rd rfl rfl rfl (Rd.pickF rfl rfl rfl) ?_
          refine To.rd rfl rfl rfl (Rd.assign rfl rfl) ?_
          refine To.nil ?_
          refine To.sub [(0, .agg (En.cells e).toArray), (1, .agg (En.cells f).toArray), (2, .pointer (some ⟨b2, 0, none⟩)), (3, .pointer (some ⟨b3, 0, none⟩)), (4, .bool false), (7, .pointer (some ⟨b2, 1, none⟩)), (8, .agg #[.int .u8 e.s, .int .i64 e.c, .int .i64 e.p, .int .i64 e.n, .int .i64 e.k, .int .i64 e.h, .slice e.A e.args.length e.cap]), (9, .pointer (some ⟨b3, 1, none⟩)), (10, .agg #[.int .u8 f.s, .int .i64 f.c, .int .i64 f.p, .int .i64 f.n, .int .i64 f.k, .int .i64 f.h, .slice f.A f.args.length f.cap]), (5, .pointer (some ⟨b5, 0, none⟩)), (6, .pointer (some ⟨b6, 0, none⟩))] ⟨rfl, rfl, rfl, rfl, rfl, rfl, rfl, rfl, rfl, rfl, rfl, trivial⟩ ?_
          refine To.thenN ?_
          refine To.ret ?_
          refine To.end1 (.inl rfl) Try.results45 rfl ?_
          refine congrArg Value.bool ?_
          simp [bare_iff, *]
      ·
        refine To.sk rfl rfl rfl ?_
        refine To.sk rfl rfl rfl ?_
        refine To.sk rfl rfl rfl ?_
        refine To.sk rfl rfl rfl ?_
        refine To.sk rfl rfl rfl ?_
        refine To.rd rfl rfl rfl (Rd.pickF rfl rfl rfl) ?_
        refine To.rd rfl rfl rfl (Rd.move rfl rfl) ?_
        refine To.sk rfl rfl rfl ?_
        refine To.sk rfl rfl rfl ?_
        refine To.sk rfl rfl rfl ?_
        refine To.sk rfl rfl rfl ?_
        refine To.sk rfl rfl rfl ?_
        refine To.rd rfl rfl rfl (Rd.pickF rfl rfl rfl) ?_
        refine To.rd rfl rfl rfl (Rd.move rfl rfl) ?_
        refine To.sk rfl rfl rfl ?_
        refine To.sk rfl rfl rfl ?_
        refine To.sk rfl rfl rfl ?_
        refine To.sk rfl rfl rfl ?_
        refine To.sk rfl rfl rfl ?_
        refine To.rd rfl rfl rfl (Rd.pickF rfl rfl rfl) ?_
        refine To.rd rfl rfl rfl (Rd.move rfl rfl) ?_
        refine To.sk rfl rfl rfl ?_
        refine To.sk rfl rfl rfl ?_
        refine To.sk rfl rfl rfl ?_
        refine To.sk rfl rfl rfl ?_
        refine To.sk rfl rfl rfl ?_
        refine To.rd rfl rfl rfl (Rd.pickF rfl rfl rfl) ?_
        refine To.rd rfl rfl rfl (Rd.move rfl rfl) ?_
        refine To.sk rfl rfl rfl ?_
        refine To.sk rfl rfl rfl ?_
        refine To.sk rfl rfl rfl ?_
        refine To.sk rfl rfl rfl ?_
        refine To.sk rfl rfl rfl ?_
        refine To.rd rfl rfl rfl (Rd.pickF rfl rfl rfl) ?_
        refine To.rd rfl rfl rfl (Rd.assign rfl rfl) ?_
        refine To.nil ?_
        refine To.sub [(0, .agg (En.cells e).toArray), (1, .agg (En.cells f).toArray), (2, .pointer (some ⟨b2, 0, none⟩)), (3, .pointer (some ⟨b3, 0, none⟩)), (4, .bool false), (7, .pointer (some ⟨b2, 1, none⟩)), (8, .agg #[.int .u8 e.s, .int .i64 e.c, .int .i64 e.p, .int .i64 e.n, .int .i64 e.k, .int .i64 e.h, .slice e.A e.args.length e.cap]), (9, .pointer (some ⟨b3, 1, none⟩)), (10, .agg #[.int .u8 f.s, .int .i64 f.c, .int .i64 f.p, .int .i64 f.n, .int .i64 f.k, .int .i64 f.h, .slice f.A f.args.length f.cap]), (5, .pointer (some ⟨b5, 0, none⟩)), (6, .pointer (some ⟨b6, 0, none⟩))] ⟨rfl, rfl, rfl, rfl, rfl, rfl, rfl, rfl, rfl, rfl, rfl, trivial⟩ ?_
        refine To.thenN ?_
        refine To.ret ?_
        refine To.end1 (.inl rfl) Try.results45 rfl ?_
        refine congrArg Value.bool ?_
        simp [bare_iff, *]
    ·
      refine To.sk rfl rfl rfl ?_
      refine To.sk rfl rfl rfl ?_
      refine To.sk rfl rfl rfl ?_
      refine To.sk rfl rfl rfl ?_
      refine To.sk rfl rfl rfl ?_
      refine To.rd rfl rfl rfl (Rd.pickF rfl rfl rfl) ?_
      refine To.rd rfl rfl rfl (Rd.move rfl rfl) ?_
      refine To.sk rfl rfl rfl ?_
      refine To.sk rfl rfl rfl ?_
      refine To.sk rfl rfl rfl ?_
      refine To.sk rfl rfl rfl ?_
      refine To.sk rfl rfl rfl ?_
      refine To.rd rfl rfl rfl (Rd.pickF rfl rfl rfl) ?_
      refine To.rd rfl rfl rfl (Rd.move rfl rfl) ?_
      refine To.sk rfl rfl rfl ?_
      refine To.sk rfl rfl rfl ?_
      refine To.sk rfl rfl rfl ?_
      refine To.sk rfl rfl rfl ?_
      refine To.sk rfl rfl rfl ?_
      refine To.rd rfl rfl rfl (Rd.pickF rfl rfl rfl) ?_
      refine To.rd rfl rfl rfl (Rd.move rfl rfl) ?_
      refine To.sk rfl rfl rfl ?_
      refine To.sk rfl rfl rfl ?_
      refine To.sk rfl rfl rfl ?_
      refine To.sk rfl rfl rfl ?_
      refine To.sk rfl rfl rfl ?_
      refine To.rd rfl rfl rfl (Rd.pickF rfl rfl rfl) ?_
      refine To.rd rfl rfl rfl (Rd.move rfl rfl) ?_
      refine To.sk rfl rfl rfl ?_
      refine To.sk rfl rfl rfl ?_
      refine To.sk rfl rfl rfl ?_
      refine To.sk rfl rfl rfl ?_
      refine To.sk rfl rfl rfl ?_
      refine To.rd rfl rfl rfl (Rd.pickF rfl rfl rfl) ?_
      refine To.rd rfl rfl rfl (Rd.move rfl rfl) ?_
      refine To.sk rfl rfl rfl ?_
      refine To.sk rfl rfl rfl ?_
      refine To.sk rfl rfl rfl ?_
      refine To.sk rfl rfl rfl ?_
      refine To.sk rfl rfl rfl ?_
      refine To.rd rfl rfl rfl (Rd.pickF rfl rfl rfl) ?_
      refine To.rd rfl rfl rfl (Rd.assign rfl rfl) ?_
      refine To.nil ?_
      refine To.sub [(0, .agg (En.cells e).toArray), (1, .agg (En.cells f).toArray), (2, .pointer (some ⟨b2, 0, none⟩)), (3, .pointer (some ⟨b3, 0, none⟩)), (4, .bool false), (7, .pointer (some ⟨b2, 1, none⟩)), (8, .agg #[.int .u8 e.s, .int .i64 e.c, .int .i64 e.p, .int .i64 e.n, .int .i64 e.k, .int .i64 e.h, .slice e.A e.args.length e.cap]), (9, .pointer (some ⟨b3, 1, none⟩)), (10, .agg #[.int .u8 f.s, .int .i64 f.c, .int .i64 f.p, .int .i64 f.n, .int .i64 f.k, .int .i64 f.h, .slice f.A f.args.length f.cap]), (5, .pointer (some ⟨b5, 0, none⟩)), (6, .pointer (some ⟨b6, 0, none⟩))] ⟨rfl, rfl, rfl, rfl, rfl, rfl, rfl, rfl, rfl, rfl, rfl, trivial⟩ ?_
      refine To.thenN ?_
      refine To.ret ?_
      refine To.end1 (.inl rfl) Try.results45 rfl ?_
      refine congrArg Value.bool ?_
      simp [bare_iff, *]
  ·
    refine To.sk rfl rfl rfl ?_
    refine To.sk rfl rfl rfl ?_
    refine To.sk rfl rfl rfl ?_
    refine To.sk rfl rfl rfl ?_
    refine To.sk rfl rfl rfl ?_
    refine To.rd rfl rfl rfl (Rd.pickF rfl rfl rfl) ?_
    refine To.rd rfl rfl rfl (Rd.move rfl rfl) ?_
    refine To.sk rfl rfl rfl ?_
    refine To.sk rfl rfl rfl ?_
    refine To.sk rfl rfl rfl ?_
    refine To.sk rfl rfl rfl ?_
    refine To.sk rfl rfl rfl ?_
    refine To.rd rfl rfl rfl (Rd.pickF rfl rfl rfl) ?_
    refine To.rd rfl rfl rfl (Rd.move rfl rfl) ?_
    refine To.sk rfl rfl rfl ?_
    refine To.sk rfl rfl rfl ?_
    refine To.sk rfl rfl rfl ?_
    refine To.sk rfl rfl rfl ?_
    refine To.sk rfl rfl rfl ?_
    refine To.rd rfl rfl rfl (Rd.pickF rfl rfl rfl) ?_
    refine To.rd rfl rfl rfl (Rd.move rfl rfl) ?_
    refine To.sk rfl rfl rfl ?_
    refine To.sk rfl rfl rfl ?_
    refine To.sk rfl rfl rfl ?_
    refine To.sk rfl rfl rfl ?_
    refine To.sk rfl rfl rfl ?_
    refine To.rd rfl rfl rfl (Rd.pickF rfl rfl rfl) ?_
    refine To.rd rfl rfl rfl (Rd.move rfl rfl) ?_
    refine To.sk rfl rfl rfl ?_
    refine To.sk rfl rfl rfl ?_
    refine To.sk rfl rfl rfl ?_
    refine To.sk rfl rfl rfl ?_
    refine To.sk rfl rfl rfl ?_
    refine To.rd rfl rfl rfl (Rd.pickF rfl rfl rfl) ?_
    refine To.rd rfl rfl rfl (Rd.move rfl rfl) ?_
    refine To.sk rfl rfl rfl ?_
    refine To.sk rfl rfl rfl ?_
    refine To.sk rfl rfl rfl ?_
    refine To.sk rfl rfl rfl ?_
    refine To.sk rfl rfl rfl ?_
    refine To.rd rfl rfl rfl (Rd.pickF rfl rfl rfl) ?_
    refine To.rd rfl rfl rfl (Rd.move rfl rfl) ?_
    refine To.sk rfl rfl rfl ?_
    refine To.sk rfl rfl rfl ?_
    refine To.sk rfl rfl rfl ?_
    refine To.sk rfl rfl rfl ?_
    refine To.sk rfl rfl rfl ?_
    refine To.rd rfl rfl rfl (Rd.pickF rfl rfl rfl) ?_
    refine To.rd rfl rfl rfl (Rd.assign rfl rfl) ?_
    refine To.nil ?_
    refine To.sub [(0, .agg (En.cells e).toArray), (1, .agg (En.cells f).toArray), (2, .pointer (some ⟨b2, 0, none⟩)), (3, .pointer (some ⟨b3, 0, none⟩)), (4, .bool false), (7, .pointer (some ⟨b2, 1, none⟩)), (8, .agg #[.int .u8 e.s, .int .i64 e.c, .int .i64 e.p, .int .i64 e.n, .int .i64 e.k, .int .i64 e.h, .slice e.A e.args.length e.cap]), (9, .pointer (some ⟨b3, 1, none⟩)), (10, .agg #[.int .u8 f.s, .int .i64 f.c, .int .i64 f.p, .int .i64 f.n, .int .i64 f.k, .int .i64 f.h, .slice f.A f.args.length f.cap]), (5, .pointer (some ⟨b5, 0, none⟩)), (6, .pointer (some ⟨b6, 0, none⟩))] ⟨rfl, rfl, rfl, rfl, rfl, rfl, rfl, rfl, rfl, rfl, rfl, trivial⟩ ?_
    refine To.thenN ?_
    refine To.ret ?_
    refine To.end1 (.inl rfl) Try.results45 rfl ?_
    refine congrArg Value.bool ?_
    simp [bare_iff, *]
set_option maxHeartbeats 2000000 in
set_option maxRecDepth 100000 in
theorem eqFunc_fn (A B : Option Addr) (p q : Nat) (L M : List En) (hl : L.length ≤ 1000000000) (hal : ∀ e ∈ L, e.args.length ≤ 1000000000000) :
    Does Try.prog 47 [.slice A L.length p, .slice B M.length q, .func (.func 45) #[] #[]] [ros En.cells A L, ros En.cells B M, argsS (L.map En.ar), argsS (M.map En.ar)] (fun v _ => v = .bool (decide (L.map En.bare = M.map En.bare))) := by
  refine Does.enter Try.func47 rfl Try.ntmps47 rfl (fun w0 => ?_)
  refine To.seq ?_
  refine To.reg ?_
  refine To.rd rfl rfl rfl (Rd.assign rfl rfl) ?_
  refine To.nil ?_
  refine To.thenN ?_
  refine To.seq ?_
  refine To.seq ?_
  refine To.reg ?_
  refine To.rd rfl rfl rfl (Rd.move rfl rfl) ?_
  refine To.rd rfl rfl rfl (Rd.len rfl rfl Try.underlying83) ?_
  refine To.rd rfl rfl rfl (Rd.move rfl rfl) ?_
  refine To.rd rfl rfl rfl (Rd.len rfl rfl Try.underlying83) ?_
  refine To.rd rfl rfl rfl (Rd.neq rfl rfl rfl) ?_
  refine To.nil ?_
  refine To.thenN ?_
  refine To.condP rfl (fun c14 => ?_) (fun c14 => ?_)
  ·
    refine To.seq ?_
    refine To.reg ?_
    refine To.rd rfl rfl rfl (Rd.assign rfl rfl) ?_
    refine To.nil ?_
    refine To.thenN ?_
    refine To.ret ?_
    refine To.thenR ?_
    refine To.end1 (.inl rfl) Try.results47 rfl ?_
    have := eq_len (f := En.bare) (M := L) (W := M) (by omega)
    simp [this]
  ·
    refine To.skip ?_
    refine To.thenN ?_
    refine To.seq ?_
    refine To.seq ?_
    refine To.reg ?_
    refine To.rd rfl rfl rfl (Rd.move rfl rfl) ?_
    refine To.rd rfl rfl rfl (Rd.len rfl rfl Try.underlying83) ?_
    refine To.rd rfl rfl rfl (Rd.move rfl rfl) ?_
    refine To.nil ?_
    refine To.thenN ?_
    refine To.block ?_
    refine To.sub [(0, .slice A L.length p), (1, .slice B M.length q), (2, .func (.func 45) #[] #[]), (15, .slice A L.length p), (16, .int .i64 ((L.length : Nat) : Int)), (17, .int .i64 ((0 : Nat) : Int))] ⟨rfl, rfl, rfl, rfl, rfl, rfl, trivial⟩ ?_
    refine To.only [0, 0, 0, 0] rfl ?_
    refine To.loop (fun m ρ Γ => ∃ (i : Nat), ρ = [(0, .slice A L.length p), (1, .slice B M.length q), (2, .func (.func 45) #[] #[]), (15, .slice A L.length p), (16, .int .i64 ((L.length : Nat) : Int)), (17, .int .i64 ((i : Nat) : Int))] ∧ Γ = [ros En.cells A L, ros En.cells B M, argsS (L.map En.ar), argsS (M.map En.ar)] ∧ m = L.length - i ∧ (i ≤ L.length) ∧ ((L.take i).map En.bare = (M.take i).map En.bare)) (L.length - 0) ⟨0, rfl, rfl, rfl, (Nat.zero_le _), rfl⟩ ?_
    rintro m _ _ ⟨i, rfl, rfl, rfl, hi, hI⟩
    refine To.seq ?_
    refine To.reg ?_
    refine To.rd rfl rfl rfl (Rd.lss rfl rfl rfl) ?_
    refine To.nil ?_
    refine To.thenN ?_
    refine To.seq ?_
    refine To.condP rfl (fun c18 => ?_) (fun c18 => ?_)
    ·
      obtain ⟨x, hx⟩ : ∃ y, L[i]? = some y := ⟨L[i]'(by omega), List.getElem?_eq_getElem _⟩
      obtain ⟨y, hy⟩ : ∃ y, M[i]? = some y := ⟨M[i]'(by omega), List.getElem?_eq_getElem _⟩
      refine To.skip ?_
      refine To.thenN ?_
      refine To.seq ?_
      refine To.block ?_
      refine To.seq ?_
      refine To.reg ?_
      refine To.rd rfl rfl rfl (Rd.move rfl rfl) ?_
      refine To.rd rfl rfl rfl (Rd.indexRos encC (i := 0) (j := i) rfl rfl rfl s83 rfl hx) ?_
      refine To.rd rfl rfl rfl (Rd.loadS (i := 0) rfl rfl r82 rfl (ros_gives encC hx) (encC.len _)) ?_
      refine To.alloc rfl rfl rfl rfl z82 (fun b8 => ?_)
      refine To.rd rfl rfl rfl (Rd.assign rfl rfl) ?_
      refine To.up rfl rfl (Up.storeS (i := 0) rfl rfl rfl r82 rfl rfl rfl (box_takesAll rfl)) ?_
      refine To.nil ?_
      refine To.thenN ?_
      refine To.seq ?_
      refine To.reg ?_
      refine To.rd rfl rfl rfl (Rd.move rfl rfl) ?_
      refine To.rd rfl rfl rfl (Rd.move rfl rfl) ?_
      refine To.rd rfl rfl rfl (Rd.indexRos encC (i := 2) (j := i) rfl rfl rfl s83 rfl hy) ?_
      refine To.rd rfl rfl rfl (Rd.loadS (i := 2) rfl rfl r82 rfl (ros_gives encC hy) (encC.len _)) ?_
      refine To.alloc rfl rfl rfl rfl z82 (fun b9 => ?_)
      refine To.up rfl rfl (Up.storeS (i := 0) rfl rfl rfl r82 rfl rfl rfl (box_takesAll rfl)) ?_
      refine To.nil ?_
      refine To.thenN ?_
      refine To.seq ?_
      refine To.reg ?_
      refine To.rd rfl rfl rfl (Rd.move rfl rfl) ?_
      refine To.rd rfl rfl rfl (Rd.loadS (i := 1) rfl rfl r82 rfl box_whole rfl) ?_
      refine To.rd rfl rfl rfl (Rd.loadS (i := 0) rfl rfl r82 rfl box_whole rfl) ?_
      refine To.callV rfl rfl rfl (Ent.func (first := []) (captured := []) rfl rfl rfl ca45) (eqEn_fn x y (hal x (List.mem_of_getElem? hx))) rfl (oks_cons (oks_Sr 4 rfl (mem_at hx En.ar)) (oks_cons (oks_Sr 5 rfl (mem_at hy En.ar)) (oks_nil _))) ?_
      refine To.rd rfl rfl rfl (Rd.not rfl rfl) ?_
      refine To.nil ?_
      refine To.thenN ?_
      refine To.cond rfl (fun c30 => ?_) (fun c30 => ?_)
      ·
        refine To.seq ?_
        refine To.reg ?_
        refine To.rd rfl rfl rfl (Rd.assign rfl rfl) ?_
        refine To.nil ?_
        refine To.thenN ?_
        refine To.ret ?_
        refine To.blockR ?_
        refine To.thenR ?_
        refine To.thenR ?_
        refine To.blockR ?_
        refine To.thenR ?_
        refine To.end1 (.inl rfl) Try.results47 rfl ?_
        have := eq_no (f := En.bare) hx hy (by simpa using c30)
        simp [this]
      ·
        refine To.skip ?_
        refine To.blockN ?_
        refine To.thenN ?_
        refine To.reg ?_
        refine To.rd rfl rfl rfl (Rd.inc rfl rfl rfl (by omega)) ?_
        refine To.rd rfl rfl rfl (Rd.move rfl rfl) ?_
        refine To.nil ?_
        refine To.thenN ?_
        refine To.sub [(0, .slice A L.length p), (1, .slice B M.length q), (2, .func (.func 45) #[] #[]), (15, .slice A L.length p), (16, .int .i64 ((L.length : Nat) : Int)), (17, .int .i64 (((i + 1) : Nat) : Int))] ⟨rfl, rfl, rfl, rfl, rfl, rfl, trivial⟩ ?_
        refine To.only [2, 2, 2, 2] rfl ?_
        refine To.again (L.length - (i + 1)) (by omega) ⟨i + 1, rfl, rfl, rfl, (by omega), (eq_step hx hy hI (by simpa using c30))⟩
    ·
      refine To.exit ?_
      refine To.thenX ?_
      refine To.thenX ?_
      refine To.blockX ?_
      refine To.thenN ?_
      refine To.seq ?_
      refine To.reg ?_
      refine To.rd rfl rfl rfl (Rd.assign rfl rfl) ?_
      refine To.nil ?_
      refine To.thenN ?_
      refine To.ret ?_
      refine To.end1 (.inl rfl) Try.results47 rfl ?_
      have := eq_all (by omega) (by omega) hI
      simp [this]
set_option maxHeartbeats 2000000 in
set_option maxRecDepth 100000 in
theorem equal_fn (a b : Nat) (v u : Value) (L M : List En) (hl : L.length ≤ 1000000000) (hal : ∀ e ∈ L, e.args.length ≤ 1000000000000) :
    Does Try.prog 25 [.pointer (some ⟨a, 0, none⟩), .pointer (some ⟨b, 0, none⟩)] [agc a v L, agc b u M] (fun r Γ' => r = .bool (decide (L.map En.bare = M.map En.bare)) ∧ Γ' = [agc a v L, agc b u M]) := by
  refine Does.enter Try.func25 rfl Try.ntmps25 rfl (fun w0 => ?_)
  refine To.seq ?_
  refine To.reg ?_
  refine To.rd rfl rfl rfl (Rd.assign rfl rfl) ?_
  refine To.nil ?_
  refine To.thenN ?_
  refine To.seq ?_
  refine To.seq ?_
  refine To.reg ?_
  refine To.rd rfl rfl rfl (Rd.move rfl rfl) ?_
  refine To.rd rfl rfl rfl (Rd.eqlNil rfl Try.underlying24 rfl rfl) ?_
  refine To.rd rfl rfl rfl (Rd.move rfl rfl) ?_
  refine To.rd rfl rfl rfl (Rd.move rfl rfl) ?_
  refine To.rd rfl rfl rfl (Rd.eqlNil rfl Try.underlying24 rfl rfl) ?_
  refine To.rd rfl rfl rfl (Rd.pickF rfl rfl rfl) ?_
  refine To.nil ?_
  refine To.thenN ?_
  refine To.condF rfl ?_
  refine To.skip ?_
  refine To.thenN ?_
  refine To.seq ?_
  refine agc_open (fun A p hv1 hcs1 => ?_)
  refine To.front 3 rfl ?_
  refine agc_open (fun B q hv2 hcs2 => ?_)
  refine To.as [box b [.slice B M.length q] 85, rows En.cells 82 8 B q M, argsO M, box a [.slice A L.length p] 85, rows En.cells 82 8 A p L, argsO L] rfl ?_
  refine To.reg ?_
  refine To.rd rfl rfl rfl (Rd.assign rfl rfl) ?_
  refine To.nil ?_
  refine To.thenN ?_
  refine To.seq ?_
  refine To.flow [] [⟨0, [], 0⟩, ⟨1, [], 0⟩, ⟨2, [], 0⟩, ⟨4, [], 0⟩, ⟨5, [], 0⟩, ⟨6, [], 0⟩, ⟨8, [], 0⟩, ⟨3, [], 1⟩, ⟨7, [], 1⟩, ⟨9, [], 3⟩, ⟨10, [], 0⟩] mixed (by kernel_rfl) (oks_nil _) ?_
  refine FlowS.free rfl rfl rfl rfl (Rd.move rfl rfl) ?_
  refine FlowS.free rfl rfl rfl rfl (Rd.nilCheck rfl rfl) ?_
  refine FlowS.free rfl rfl rfl rfl (Rd.field rfl rfl fl85_0) ?_
  refine FlowS.free rfl rfl rfl rfl (Rd.move rfl rfl) ?_
  refine FlowS.free rfl rfl rfl rfl (Rd.nilCheck rfl rfl) ?_
  refine FlowS.free rfl rfl rfl rfl (Rd.field rfl rfl fl85_0) ?_
  refine FlowS.free rfl rfl rfl rfl (Rd.move rfl rfl) ?_
  refine FlowS.rd rfl rfl rfl rfl (Rd.load (i := 3) rfl rfl c83 rfl (box_gives1 rfl)) ?_
  refine FlowS.rd rfl rfl rfl rfl (Rd.load (i := 0) rfl rfl c83 rfl (box_gives1 rfl)) ?_
  refine FlowS.callQ rfl rfl rfl rfl (Ent.fn rfl rfl ca47) (eqFunc_fn A B p q L M hl hal) rfl (oks_cons (oks_row 4 rfl) (oks_cons (oks_row 1 rfl) (oks_cons (oks_OS 5 rfl) (oks_cons (oks_OS 2 rfl) (oks_nil _))))) ?_
  refine FlowS.free rfl rfl rfl rfl (Rd.assign rfl rfl) ?_
  refine FlowS.fin ?_
  refine To.as [box b [.slice B M.length q] 85, rows En.cells 82 8 B q M, argsO M, box a [.slice A L.length p] 85, rows En.cells 82 8 A p L, argsO L] rfl ?_
  refine To.thenN ?_
  refine To.ret ?_
  subst hv1 hv2
  refine agc_close hcs2.2 ?_
  refine To.only [1, 1, 1, 0] rfl ?_
  refine agc_close hcs1.2 ?_
  refine To.end1 (.inl rfl) Try.results25 rfl ?_
  exact ⟨rfl, rfl⟩
end Go.Proofs.Ytnamppkicefbjaa

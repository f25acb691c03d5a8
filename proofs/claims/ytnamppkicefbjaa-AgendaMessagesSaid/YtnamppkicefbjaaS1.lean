/- The walk of same. Own text (walks printed by sx.py). -/
import Derived.Test.YtnamppkicefbjaaF1
namespace Go.Proofs.Ytnamppkicefbjaa
open Go.RowKit Go.Flow Go.Mem Go.Sep
noncomputable instance decEn : DecidableEq En := fun _ _ => Classical.propDecidable _
/-- An entry without its tick, and without where its arguments lie. -/
def En.itm (e : En) : En := { e with t := 0, A := none, cap := 0 }
theorem itm_eq (x y : En) : x.itm = y.itm ↔ x.s = y.s ∧ x.c = y.c ∧ x.p = y.p ∧ x.n = y.n ∧ x.k = y.k ∧ x.h = y.h ∧ x.args = y.args := by
  obtain ⟨t, s, c, p, n, k, h, args, A, cap⟩ := x
  obtain ⟨t', s', c', p', n', k', h', args', A', cap'⟩ := y
  simp [En.itm]
theorem same_step {M W : List En} {i : Nat} {x y : En} (hx : M[i]? = some x) (hy : W[i]? = some y) (h : (M.take i).map En.itm = (W.take i).map En.itm) (hxy : x.itm = y.itm) : (M.take (i + 1)).map En.itm = (W.take (i + 1)).map En.itm := by
  rw [take_of_get hx, take_of_get hy, List.map_append, List.map_append, h]; simp [hxy]
theorem same_no {M W : List En} {i : Nat} {x y : En} (hx : M[i]? = some x) (hy : W[i]? = some y) (hxy : x.itm ≠ y.itm) : M.map En.itm ≠ W.map En.itm := fun h => by
  have h1 : (M.map En.itm)[i]? = (W.map En.itm)[i]? := by rw [h]
  simp [hx, hy] at h1
  exact hxy h1
set_option maxHeartbeats 2000000 in
set_option maxRecDepth 100000 in
theorem same_fn (Am Aw : Option Addr) (cm cw : Nat) (M W : List En) (hW : ∀ e ∈ W, 0 ≤ e.s ∧ e.s < 256) (hM : ∀ e ∈ M, e.args.length ≤ 1000000000000) (hl : M.length ≤ 1000000000000) (hl2 : W.length ≤ 1000000000000) :
    Does Try.prog 14 [.slice Am M.length cm, .slice Aw W.length cw] [ros En.icells Am M, ros En.rcells Aw W, argsS (M.map En.ar), argsS (W.map En.ar)] (fun v _ => v = .bool (decide (M.map En.itm = W.map En.itm))) := by
  refine Does.enter Try.func14 rfl Try.ntmps14 rfl (fun w0 => ?_)
  refine To.seq ?_
  refine To.reg ?_
  refine To.rd rfl rfl rfl (Rd.assign rfl rfl) ?_
  refine To.nil ?_
  refine To.thenN ?_
  refine To.seq ?_
  refine To.seq ?_
  refine To.reg ?_
  refine To.rd rfl rfl rfl (Rd.move rfl rfl) ?_
  refine To.rd rfl rfl rfl (Rd.len rfl rfl Try.underlying31) ?_
  refine To.rd rfl rfl rfl (Rd.move rfl rfl) ?_
  refine To.rd rfl rfl rfl (Rd.len rfl rfl Try.underlying25) ?_
  refine To.rd rfl rfl rfl (Rd.neq rfl rfl rfl) ?_
  refine To.nil ?_
  refine To.thenN ?_
  refine To.condP rfl (fun c13 => ?_) (fun c13 => ?_)
  ·
    refine To.seq ?_
    refine To.reg ?_
    refine To.rd rfl rfl rfl (Rd.assign rfl rfl) ?_
    refine To.nil ?_
    refine To.thenN ?_
    refine To.ret ?_
    refine To.thenR ?_
    refine To.end1 (.inl rfl) Try.results14 rfl ?_
    have : M.map En.itm ≠ W.map En.itm := fun h => by have := congrArg List.length h; simp at this; omega
    simp [this]
  ·
    refine To.skip ?_
    refine To.thenN ?_
    refine To.seq ?_
    refine To.seq ?_
    refine To.reg ?_
    refine To.rd rfl rfl rfl (Rd.move rfl rfl) ?_
    refine To.rd rfl rfl rfl (Rd.len rfl rfl Try.underlying25) ?_
    refine To.rd rfl rfl rfl (Rd.move rfl rfl) ?_
    refine To.nil ?_
    refine To.thenN ?_
    refine To.block ?_
    refine To.sub [(0, .slice Am M.length cm), (14, .slice Aw W.length cw), (15, .int .i64 ((W.length : Nat) : Int)), (16, .int .i64 ((0 : Nat) : Int))] ⟨rfl, rfl, rfl, rfl, trivial⟩ ?_
    refine To.only [0, 0, 0, 0] rfl ?_
    refine To.loop (fun m ρ Γ => ∃ (i : Nat), ρ = [(0, .slice Am M.length cm), (14, .slice Aw W.length cw), (15, .int .i64 ((W.length : Nat) : Int)), (16, .int .i64 ((i : Nat) : Int))] ∧ Γ = [ros En.icells Am M, ros En.rcells Aw W, argsS (M.map En.ar), argsS (W.map En.ar)] ∧ m = W.length - i ∧ (i ≤ W.length) ∧ ((M.take i).map En.itm = (W.take i).map En.itm)) (W.length - 0) ⟨0, rfl, rfl, rfl, (Nat.zero_le _), rfl⟩ ?_
    rintro m _ _ ⟨i, rfl, rfl, rfl, hi, hI⟩
    refine To.seq ?_
    refine To.reg ?_
    refine To.rd rfl rfl rfl (Rd.lss rfl rfl rfl) ?_
    refine To.nil ?_
    refine To.thenN ?_
    refine To.seq ?_
    refine To.condP rfl (fun c17 => ?_) (fun c17 => ?_)
    ·
      have hlen : M.length = W.length := by omega
      obtain ⟨x, hx⟩ : ∃ y, M[i]? = some y := ⟨M[i]'(by omega), List.getElem?_eq_getElem _⟩
      obtain ⟨y, hy⟩ : ∃ y, W[i]? = some y := ⟨W[i]'(by omega), List.getElem?_eq_getElem _⟩
      refine To.skip ?_
      refine To.thenN ?_
      refine To.seq ?_
      refine To.block ?_
      refine To.seq ?_
      refine To.reg ?_
      refine To.rd rfl rfl rfl (Rd.move rfl rfl) ?_
      refine To.rd rfl rfl rfl (Rd.indexRos encR (i := 1) (j := i) rfl rfl rfl s25 rfl hy) ?_
      refine To.rd rfl rfl rfl (Rd.loadS (i := 1) rfl rfl r30 rfl (ros_gives encR hy) (encR.len _)) ?_
      refine To.alloc rfl rfl rfl rfl z30 (fun b6 => ?_)
      refine To.rd rfl rfl rfl (Rd.assign rfl rfl) ?_
      refine To.up rfl rfl (Up.storeS (i := 0) rfl rfl rfl r30 rfl rfl rfl (box_takesAll rfl)) ?_
      refine To.nil ?_
      refine To.thenN ?_
      refine To.seq ?_
      refine To.flow [] [⟨0, [], 0⟩, ⟨1, [], 0⟩, ⟨4, [], 1⟩, ⟨5, [], 3⟩, ⟨2, [], 1⟩, ⟨3, [], 1⟩, ⟨6, [], 2⟩, ⟨7, [], 2⟩, ⟨8, [6, 7], 5⟩, ⟨9, [], 5⟩] mixed (by kernel_rfl) (oks_nil _) ?_
      refine FlowS.free rfl rfl rfl rfl (Rd.move rfl rfl) ?_
      refine FlowS.free rfl rfl rfl rfl (Rd.move rfl rfl) ?_
      refine FlowS.rd rfl rfl rfl rfl (Rd.loadS (i := 0) rfl rfl r30 rfl box_whole rfl) ?_
      refine FlowS.callQ rfl rfl rfl rfl (Ent.fn rfl rfl ca24) (item_fn y (hW y (List.mem_of_getElem? hy))) rfl (oks_nil _) ?_
      refine FlowS.rd rfl rfl rfl rfl (Rd.indexRos encIt (i := 1) (j := i) rfl rfl rfl s31 rfl hx) ?_
      refine FlowS.rd rfl rfl rfl rfl (Rd.loadS (i := 1) rfl rfl r35 rfl (ros_gives encIt hx) (encIt.len _)) ?_
      refine FlowS.mk rfl rfl rfl rfl rfl (Mk.alloc rfl z35) ?_
      rintro _ _ ⟨b7, rfl, rfl⟩
      refine FlowS.mk rfl rfl rfl rfl rfl (Mk.alloc rfl z35) ?_
      rintro _ _ ⟨b8, rfl, rfl⟩
      refine FlowS.up (Γ' := [box b8 [.int .u8 0, .int .i64 0, .int .i64 0, .int .i64 0, .int .i64 0, .int .i64 0, .slice none 0 0] 35, box b7 [.int .u8 x.s, .int .i64 x.c, .int .i64 x.p, .int .i64 x.n, .int .i64 x.k, .int .i64 x.h, .slice x.A x.args.length x.cap] 35, box b6 [.int .i64 y.t, .int .i64 y.s, .int .i64 y.c, .int .i64 y.p, .int .i64 y.n, .int .i64 y.k, .int .i64 y.h, .slice y.A y.args.length y.cap] 30, ros En.icells Am M, ros En.rcells Aw W, argsS (M.map En.ar), argsS (W.map En.ar)]) rfl rfl rfl (Up.storeS (i := 1) rfl rfl rfl r35 rfl rfl rfl (box_takesAll rfl)) (oks_nil _) ?_
      refine FlowS.up (Γ' := [box b8 [.int .u8 y.s, .int .i64 y.c, .int .i64 y.p, .int .i64 y.n, .int .i64 y.k, .int .i64 y.h, .slice y.A y.args.length y.cap] 35, box b7 [.int .u8 x.s, .int .i64 x.c, .int .i64 x.p, .int .i64 x.n, .int .i64 x.k, .int .i64 x.h, .slice x.A x.args.length x.cap] 35, box b6 [.int .i64 y.t, .int .i64 y.s, .int .i64 y.c, .int .i64 y.p, .int .i64 y.n, .int .i64 y.k, .int .i64 y.h, .slice y.A y.args.length y.cap] 30, ros En.icells Am M, ros En.rcells Aw W, argsS (M.map En.ar), argsS (W.map En.ar)]) rfl rfl rfl (Up.storeS (i := 0) rfl rfl rfl r35 rfl rfl rfl (box_takesAll rfl)) (oks_nil _) ?_
      refine FlowS.fin ?_
      refine To.as [box b8 [.int .u8 y.s, .int .i64 y.c, .int .i64 y.p, .int .i64 y.n, .int .i64 y.k, .int .i64 y.h, .slice y.A y.args.length y.cap] 35, box b7 [.int .u8 x.s, .int .i64 x.c, .int .i64 x.p, .int .i64 x.n, .int .i64 x.k, .int .i64 x.h, .slice x.A x.args.length x.cap] 35, box b6 [.int .i64 y.t, .int .i64 y.s, .int .i64 y.c, .int .i64 y.p, .int .i64 y.n, .int .i64 y.k, .int .i64 y.h, .slice y.A y.args.length y.cap] 30, ros En.icells Am M, ros En.rcells Aw W, argsS (M.map En.ar), argsS (W.map En.ar)] rfl ?_
      refine To.thenN ?_
      refine To.seq ?_
      refine To.reg ?_
      refine To.meet (T := Bool) (fun t => ([(0, .slice Am M.length cm), (14, .slice Aw W.length cw), (15, .int .i64 ((W.length : Nat) : Int)), (16, .int .i64 ((i : Nat) : Int)), (74, .bool t)], [ros En.icells Am M, ros En.rcells Aw W, argsS (M.map En.ar), argsS (W.map En.ar)])) (fun t => t = !decide (x.itm = y.itm)) ?_ (fun t ht => ?_)
      ·
        refine To.rd rfl rfl rfl (Rd.field rfl rfl fl35_0) ?_
        refine To.rd rfl rfl rfl (Rd.load (i := 1) rfl rfl c33 rfl (box_gives1 rfl)) ?_
        refine To.rd rfl rfl rfl (Rd.field rfl rfl fl35_0) ?_
        refine To.rd rfl rfl rfl (Rd.load (i := 0) rfl rfl c33 rfl (box_gives1 rfl)) ?_
        refine To.rd rfl rfl rfl (Rd.neq rfl rfl rfl) ?_
        refine To.rdP rfl rfl rfl (Rd.move rfl rfl) (fun g32 => ?_) (fun g32 => ?_)
        ·
          refine To.sk rfl rfl rfl ?_
          refine To.sk rfl rfl rfl ?_
          refine To.sk rfl rfl rfl ?_
          refine To.sk rfl rfl rfl ?_
          refine To.sk rfl rfl rfl ?_
          refine To.rd rfl rfl rfl (Rd.pickT rfl rfl rfl) ?_
          refine To.rd rfl rfl rfl (Rd.move rfl rfl) ?_
          refine To.sk rfl rfl rfl ?_
          refine To.sk rfl rfl rfl ?_
          refine To.sk rfl rfl rfl ?_
          refine To.sk rfl rfl rfl ?_
          refine To.sk rfl rfl rfl ?_
          refine To.rd rfl rfl rfl (Rd.pickT rfl rfl rfl) ?_
          refine To.rd rfl rfl rfl (Rd.move rfl rfl) ?_
          refine To.sk rfl rfl rfl ?_
          refine To.sk rfl rfl rfl ?_
          refine To.sk rfl rfl rfl ?_
          refine To.sk rfl rfl rfl ?_
          refine To.sk rfl rfl rfl ?_
          refine To.rd rfl rfl rfl (Rd.pickT rfl rfl rfl) ?_
          refine To.rd rfl rfl rfl (Rd.move rfl rfl) ?_
          refine To.sk rfl rfl rfl ?_
          refine To.sk rfl rfl rfl ?_
          refine To.sk rfl rfl rfl ?_
          refine To.sk rfl rfl rfl ?_
          refine To.sk rfl rfl rfl ?_
          refine To.rd rfl rfl rfl (Rd.pickT rfl rfl rfl) ?_
          refine To.rd rfl rfl rfl (Rd.move rfl rfl) ?_
          refine To.sk rfl rfl rfl ?_
          refine To.sk rfl rfl rfl ?_
          refine To.sk rfl rfl rfl ?_
          refine To.sk rfl rfl rfl ?_
          refine To.sk rfl rfl rfl ?_
          refine To.rd rfl rfl rfl (Rd.pickT rfl rfl rfl) ?_
          refine To.rd rfl rfl rfl (Rd.move rfl rfl) ?_
          refine To.sk rfl rfl rfl ?_
          refine To.sk rfl rfl rfl ?_
          refine To.sk rfl rfl rfl ?_
          refine To.sk rfl rfl rfl ?_
          refine To.sk rfl rfl rfl ?_
          refine To.sk rfl rfl rfl ?_
          refine To.rd rfl rfl rfl (Rd.pickT rfl rfl rfl) ?_
          refine To.nil (To.thenN ?_)
          refine To.only [3, 3, 3, 3] rfl ?_
          refine To.here true (by simp [itm_eq, *]) ⟨rfl, rfl, rfl, rfl, rfl, trivial⟩ rfl
        ·
          refine To.rd rfl rfl rfl (Rd.field rfl rfl fl35_1) ?_
          refine To.rd rfl rfl rfl (Rd.load (i := 1) rfl rfl c3 rfl (box_gives1 rfl)) ?_
          refine To.rd rfl rfl rfl (Rd.field rfl rfl fl35_1) ?_
          refine To.rd rfl rfl rfl (Rd.load (i := 0) rfl rfl c3 rfl (box_gives1 rfl)) ?_
          refine To.rd rfl rfl rfl (Rd.neq rfl rfl rfl) ?_
          refine To.rd rfl rfl rfl (Rd.pickF rfl rfl rfl) ?_
          refine To.rdP rfl rfl rfl (Rd.move rfl rfl) (fun g39 => ?_) (fun g39 => ?_)
          ·
            refine To.sk rfl rfl rfl ?_
            refine To.sk rfl rfl rfl ?_
            refine To.sk rfl rfl rfl ?_
            refine To.sk rfl rfl rfl ?_
            refine To.sk rfl rfl rfl ?_
            refine To.rd rfl rfl rfl (Rd.pickT rfl rfl rfl) ?_
            refine To.rd rfl rfl rfl (Rd.move rfl rfl) ?_
            refine To.sk rfl rfl rfl ?_
            refine To.sk rfl rfl rfl ?_
            refine To.sk rfl rfl rfl ?_
            refine To.sk rfl rfl rfl ?_
            refine To.sk rfl rfl rfl ?_
            refine To.rd rfl rfl rfl (Rd.pickT rfl rfl rfl) ?_
            refine To.rd rfl rfl rfl (Rd.move rfl rfl) ?_
            refine To.sk rfl rfl rfl ?_
            refine To.sk rfl rfl rfl ?_
            refine To.sk rfl rfl rfl ?_
            refine To.sk rfl rfl rfl ?_
            refine To.sk rfl rfl rfl ?_
            refine To.rd rfl rfl rfl (Rd.pickT rfl rfl rfl) ?_
            refine To.rd rfl rfl rfl (Rd.move rfl rfl) ?_
            refine To.sk rfl rfl rfl ?_
            refine To.sk rfl rfl rfl ?_
            refine To.sk rfl rfl rfl ?_
            refine To.sk rfl rfl rfl ?_
            refine To.sk rfl rfl rfl ?_
            refine To.rd rfl rfl rfl (Rd.pickT rfl rfl rfl) ?_
            refine To.rd rfl rfl rfl (Rd.move rfl rfl) ?_
            refine To.sk rfl rfl rfl ?_
            refine To.sk rfl rfl rfl ?_
            refine To.sk rfl rfl rfl ?_
            refine To.sk rfl rfl rfl ?_
            refine To.sk rfl rfl rfl ?_
            refine To.sk rfl rfl rfl ?_
            refine To.rd rfl rfl rfl (Rd.pickT rfl rfl rfl) ?_
            refine To.nil (To.thenN ?_)
            refine To.only [3, 3, 3, 3] rfl ?_
            refine To.here true (by simp only [ne_eq, Decidable.not_not] at g32; simp [itm_eq, *]) ⟨rfl, rfl, rfl, rfl, rfl, trivial⟩ rfl
          ·
            refine To.rd rfl rfl rfl (Rd.field rfl rfl fl35_2) ?_
            refine To.rd rfl rfl rfl (Rd.load (i := 1) rfl rfl c3 rfl (box_gives1 rfl)) ?_
            refine To.rd rfl rfl rfl (Rd.field rfl rfl fl35_2) ?_
            refine To.rd rfl rfl rfl (Rd.load (i := 0) rfl rfl c3 rfl (box_gives1 rfl)) ?_
            refine To.rd rfl rfl rfl (Rd.neq rfl rfl rfl) ?_
            refine To.rd rfl rfl rfl (Rd.pickF rfl rfl rfl) ?_
            refine To.rdP rfl rfl rfl (Rd.move rfl rfl) (fun g46 => ?_) (fun g46 => ?_)
            ·
              refine To.sk rfl rfl rfl ?_
              refine To.sk rfl rfl rfl ?_
              refine To.sk rfl rfl rfl ?_
              refine To.sk rfl rfl rfl ?_
              refine To.sk rfl rfl rfl ?_
              refine To.rd rfl rfl rfl (Rd.pickT rfl rfl rfl) ?_
              refine To.rd rfl rfl rfl (Rd.move rfl rfl) ?_
              refine To.sk rfl rfl rfl ?_
              refine To.sk rfl rfl rfl ?_
              refine To.sk rfl rfl rfl ?_
              refine To.sk rfl rfl rfl ?_
              refine To.sk rfl rfl rfl ?_
              refine To.rd rfl rfl rfl (Rd.pickT rfl rfl rfl) ?_
              refine To.rd rfl rfl rfl (Rd.move rfl rfl) ?_
              refine To.sk rfl rfl rfl ?_
              refine To.sk rfl rfl rfl ?_
              refine To.sk rfl rfl rfl ?_
              refine To.sk rfl rfl rfl ?_
              refine To.sk rfl rfl rfl ?_
              refine To.rd rfl rfl rfl (Rd.pickT rfl rfl rfl) ?_
              refine To.rd rfl rfl rfl (Rd.move rfl rfl) ?_
              refine To.sk rfl rfl rfl ?_
              refine To.sk rfl rfl rfl ?_
              refine To.sk rfl rfl rfl ?_
              refine To.sk rfl rfl rfl ?_
              refine To.sk rfl rfl rfl ?_
              refine To.sk rfl rfl rfl ?_
              refine To.rd rfl rfl rfl (Rd.pickT rfl rfl rfl) ?_
              refine To.nil (To.thenN ?_)
              refine To.only [3, 3, 3, 3] rfl ?_
              refine To.here true (by simp only [ne_eq, Decidable.not_not] at g32 g39; simp [itm_eq, *]) ⟨rfl, rfl, rfl, rfl, rfl, trivial⟩ rfl
            ·
              refine To.rd rfl rfl rfl (Rd.field rfl rfl fl35_3) ?_
              refine To.rd rfl rfl rfl (Rd.load (i := 1) rfl rfl c3 rfl (box_gives1 rfl)) ?_
              refine To.rd rfl rfl rfl (Rd.field rfl rfl fl35_3) ?_
              refine To.rd rfl rfl rfl (Rd.load (i := 0) rfl rfl c3 rfl (box_gives1 rfl)) ?_
              refine To.rd rfl rfl rfl (Rd.neq rfl rfl rfl) ?_
              refine To.rd rfl rfl rfl (Rd.pickF rfl rfl rfl) ?_
              refine To.rdP rfl rfl rfl (Rd.move rfl rfl) (fun g53 => ?_) (fun g53 => ?_)
              ·
                refine To.sk rfl rfl rfl ?_
                refine To.sk rfl rfl rfl ?_
                refine To.sk rfl rfl rfl ?_
                refine To.sk rfl rfl rfl ?_
                refine To.sk rfl rfl rfl ?_
                refine To.rd rfl rfl rfl (Rd.pickT rfl rfl rfl) ?_
                refine To.rd rfl rfl rfl (Rd.move rfl rfl) ?_
                refine To.sk rfl rfl rfl ?_
                refine To.sk rfl rfl rfl ?_
                refine To.sk rfl rfl rfl ?_
                refine To.sk rfl rfl rfl ?_
                refine To.sk rfl rfl rfl ?_
                refine To.rd rfl rfl rfl (Rd.pickT rfl rfl rfl) ?_
                refine To.rd rfl rfl rfl (Rd.move rfl rfl) ?_
                refine To.sk rfl rfl rfl ?_
                refine To.sk rfl rfl rfl ?_
                refine To.sk rfl rfl rfl ?_
                refine To.sk rfl rfl rfl ?_
                refine To.sk rfl rfl rfl ?_
                refine To.sk rfl rfl rfl ?_
                refine To.rd rfl rfl rfl (Rd.pickT rfl rfl rfl) ?_
                refine To.nil (To.thenN ?_)
                refine To.only [3, 3, 3, 3] rfl ?_
                refine To.here true (by simp only [ne_eq, Decidable.not_not] at g32 g39 g46; simp [itm_eq, *]) ⟨rfl, rfl, rfl, rfl, rfl, trivial⟩ rfl
              ·
                refine To.rd rfl rfl rfl (Rd.field rfl rfl fl35_4) ?_
                refine To.rd rfl rfl rfl (Rd.load (i := 1) rfl rfl c3 rfl (box_gives1 rfl)) ?_
                refine To.rd rfl rfl rfl (Rd.field rfl rfl fl35_4) ?_
                refine To.rd rfl rfl rfl (Rd.load (i := 0) rfl rfl c3 rfl (box_gives1 rfl)) ?_
                refine To.rd rfl rfl rfl (Rd.neq rfl rfl rfl) ?_
                refine To.rd rfl rfl rfl (Rd.pickF rfl rfl rfl) ?_
                refine To.rdP rfl rfl rfl (Rd.move rfl rfl) (fun g60 => ?_) (fun g60 => ?_)
                ·
                  refine To.sk rfl rfl rfl ?_
                  refine To.sk rfl rfl rfl ?_
                  refine To.sk rfl rfl rfl ?_
                  refine To.sk rfl rfl rfl ?_
                  refine To.sk rfl rfl rfl ?_
                  refine To.rd rfl rfl rfl (Rd.pickT rfl rfl rfl) ?_
                  refine To.rd rfl rfl rfl (Rd.move rfl rfl) ?_
                  refine To.sk rfl rfl rfl ?_
                  refine To.sk rfl rfl rfl ?_
                  refine To.sk rfl rfl rfl ?_
                  refine To.sk rfl rfl rfl ?_
                  refine To.sk rfl rfl rfl ?_
                  refine To.sk rfl rfl rfl ?_
                  refine To.rd rfl rfl rfl (Rd.pickT rfl rfl rfl) ?_
                  refine To.nil (To.thenN ?_)
                  refine To.only [3, 3, 3, 3] rfl ?_
                  refine To.here true (by simp only [ne_eq, Decidable.not_not] at g32 g39 g46 g53; simp [itm_eq, *]) ⟨rfl, rfl, rfl, rfl, rfl, trivial⟩ rfl
                ·
                  refine To.rd rfl rfl rfl (Rd.field rfl rfl fl35_5) ?_
                  refine To.rd rfl rfl rfl (Rd.load (i := 1) rfl rfl c3 rfl (box_gives1 rfl)) ?_
                  refine To.rd rfl rfl rfl (Rd.field rfl rfl fl35_5) ?_
                  refine To.rd rfl rfl rfl (Rd.load (i := 0) rfl rfl c3 rfl (box_gives1 rfl)) ?_
                  refine To.rd rfl rfl rfl (Rd.neq rfl rfl rfl) ?_
                  refine To.rd rfl rfl rfl (Rd.pickF rfl rfl rfl) ?_
                  refine To.rdP rfl rfl rfl (Rd.move rfl rfl) (fun g67 => ?_) (fun g67 => ?_)
                  ·
                    refine To.sk rfl rfl rfl ?_
                    refine To.sk rfl rfl rfl ?_
                    refine To.sk rfl rfl rfl ?_
                    refine To.sk rfl rfl rfl ?_
                    refine To.sk rfl rfl rfl ?_
                    refine To.sk rfl rfl rfl ?_
                    refine To.rd rfl rfl rfl (Rd.pickT rfl rfl rfl) ?_
                    refine To.nil (To.thenN ?_)
                    refine To.only [3, 3, 3, 3] rfl ?_
                    refine To.here true (by simp only [ne_eq, Decidable.not_not] at g32 g39 g46 g53 g60; simp [itm_eq, *]) ⟨rfl, rfl, rfl, rfl, rfl, trivial⟩ rfl
                  ·
                    refine To.rd rfl rfl rfl (Rd.field rfl rfl fl35_6) ?_
                    refine To.rd rfl rfl rfl (Rd.load (i := 1) rfl rfl c28 rfl (box_gives1 rfl)) ?_
                    refine To.rd rfl rfl rfl (Rd.field rfl rfl fl35_6) ?_
                    refine To.rd rfl rfl rfl (Rd.load (i := 0) rfl rfl c28 rfl (box_gives1 rfl)) ?_
                    refine To.callV rfl rfl rfl (Ent.fn rfl rfl ca20) (args_fn x.A y.A x.cap y.cap x.args y.args (hM x (List.mem_of_getElem? hx))) rfl (oks_cons (oks_S 5 rfl (mem_at hx En.ar)) (oks_cons (oks_S 6 rfl (mem_at hy En.ar)) (oks_nil _))) ?_
                    refine To.rd rfl rfl rfl (Rd.not rfl rfl) ?_
                    refine To.rd rfl rfl rfl (Rd.pickF rfl rfl rfl) ?_
                    refine To.nil (To.thenN ?_)
                    refine To.only [3, 3, 3, 3] rfl ?_
                    refine To.here (!(decide (x.args = y.args))) (by simp only [ne_eq, Decidable.not_not] at g32 g39 g46 g53 g60 g67; simp [itm_eq, *]) ⟨rfl, rfl, rfl, rfl, rfl, trivial⟩ rfl
      show To _ [(0, .slice Am M.length cm), (14, .slice Aw W.length cw), (15, .int .i64 ((W.length : Nat) : Int)), (16, .int .i64 ((i : Nat) : Int)), (74, .bool t)] [ros En.icells Am M, ros En.rcells Aw W, argsS (M.map En.ar), argsS (W.map En.ar)] _
      refine To.cond rfl (fun c74 => ?_) (fun c74 => ?_)
      ·
        refine To.seq ?_
        refine To.reg ?_
        refine To.rd rfl rfl rfl (Rd.assign rfl rfl) ?_
        refine To.nil ?_
        refine To.thenN ?_
        refine To.ret ?_
        refine To.blockR ?_
        refine To.thenR ?_
        refine To.thenR ?_
        refine To.blockR ?_
        refine To.thenR ?_
        refine To.end1 (.inl rfl) Try.results14 rfl ?_
        have := same_no hx hy (by rw [ht] at c74; simpa using c74)
        simp [this]
      ·
        refine To.skip ?_
        refine To.blockN ?_
        refine To.thenN ?_
        refine To.reg ?_
        refine To.rd rfl rfl rfl (Rd.inc rfl rfl rfl (by omega)) ?_
        refine To.rd rfl rfl rfl (Rd.move rfl rfl) ?_
        refine To.nil ?_
        refine To.thenN ?_
        refine To.sub [(0, .slice Am M.length cm), (14, .slice Aw W.length cw), (15, .int .i64 ((W.length : Nat) : Int)), (16, .int .i64 (((i + 1) : Nat) : Int))] ⟨rfl, rfl, rfl, rfl, trivial⟩ ?_
        refine To.only [0, 0, 0, 0] rfl ?_
        refine To.again (W.length - (i + 1)) (by omega) ⟨i + 1, rfl, rfl, rfl, (by omega), (same_step hx hy hI (by rw [ht] at c74; simpa using c74))⟩
    ·
      refine To.exit ?_
      refine To.thenX ?_
      refine To.thenX ?_
      refine To.blockX ?_
      refine To.thenN ?_
      refine To.seq ?_
      refine To.reg ?_
      refine To.rd rfl rfl rfl (Rd.assign rfl rfl) ?_
      refine To.nil ?_
      refine To.thenN ?_
      refine To.ret ?_
      refine To.end1 (.inl rfl) Try.results14 rfl ?_
      obtain rfl : i = W.length := by omega
      rw [List.take_length, ← (show M.length = W.length by omega), List.take_length] at hI
      simp [hI]
end Go.Proofs.Ytnamppkicefbjaa

/- The walk of made. Own text (walks printed by sx.py). -/
import Derived.Test.YtnamppkicefbjaaB1
namespace Go.Proofs.Ytnamppkicefbjaa
open Go.RowKit Go.Flow Go.Mem Go.Sep
structure Opr where
  dd : Int
  src : Int
  tick : Int
  cm : Int
  p : Int
  n : Int
  k : Int
  h : Int
  args : List Int
  A : Option Addr
  cap : Nat
def Opr.cells (o : Opr) : List Value := [.int .u8 o.dd, .int .u8 o.src, .int .u8 o.tick, .int .u8 o.cm, .int .i8 o.p, .int .i8 o.n, .int .i8 o.k, .int .i8 o.h, .slice o.A o.args.length o.cap]
theorem encO : Enc Opr.cells 9 := ⟨fun _ => rfl, fun e u hu => by
  simp only [Opr.cells, List.mem_cons, List.not_mem_nil, or_false] at hu
  rcases hu with rfl | rfl | rfl | rfl | rfl | rfl | rfl | rfl | rfl <;> rfl⟩
structure Opr.ok (o : Opr) : Prop where
  h0 : 0 ≤ o.dd ∧ o.dd < 256
  h1 : 0 ≤ o.src ∧ o.src < 256
  h2 : 0 ≤ o.tick ∧ o.tick < 256
  h3 : 0 ≤ o.cm ∧ o.cm < 256
  h4 : -128 ≤ o.p ∧ o.p < 128
  h5 : -128 ≤ o.n ∧ o.n < 128
  h6 : -128 ≤ o.k ∧ o.k < 128
  h7 : -128 ≤ o.h ∧ o.h < 128
  h8 : o.args.length ≤ 9223372036854775807
def mS (src : Int) : Int := if 250 ≤ src then src - 248 else 4 + src % 3
def mO (src v : Int) : Int := if 200 ≤ src ∨ src % 3 = 1 then v else 0
def Opr.en (o : Opr) (A : Option Addr) (cap : Nat) : En := ⟨o.tick % 12, mS o.src, o.cm % 3, mO o.src o.p, o.n, mO o.src o.k, o.h, o.args.take 4, A, cap⟩
theorem made_yes {xs O : List Int} {j : Nat} {y : Int} (hy : xs[j]? = some y) (hj : j < 4) (hO : O = (xs.take j).take 4) : O ++ [y] = (xs.take (j + 1)).take 4 := by
  have hl : j < xs.length := (List.getElem?_eq_some_iff.1 hy).1
  rw [List.take_take, Nat.min_eq_right (by omega)] at hO ⊢
  rw [take_of_get hy, hO]
theorem made_no {xs O : List Int} {j : Nat} {y : Int} (_ : xs[j]? = some y) (hj : ¬ j < 4) (hO : O = (xs.take j).take 4) : O = (xs.take (j + 1)).take 4 := by
  rw [List.take_take, Nat.min_eq_left (by omega)] at hO ⊢
  exact hO
set_option maxHeartbeats 2000000 in
set_option maxRecDepth 100000 in
theorem made_fn (o : Opr) (ho : o.ok) :
    Does Try.prog 31 [.agg (Opr.cells o).toArray] [ros encI o.A o.args] (fun v Γ' => ∃ A cap, v = .agg (o.en A cap).rcells.toArray ∧ Γ' = [rows encI 2 1 A cap (o.args.take 4)]) := by
  obtain ⟨h0, h1, h2, h3, h4, h5, h6, h7, h8⟩ := ho
  refine Does.enter Try.func31 rfl Try.ntmps31 rfl (fun w0 => ?_)
  refine To.seq ?_
  refine To.reg ?_
  refine To.boxed rfl rfl rfl rfl rfl rfl (fun b1 => ?_)
  refine To.alloc rfl rfl rfl rfl z30 (fun b2 => ?_)
  refine To.nil ?_
  refine To.thenN ?_
  refine To.seq ?_
  refine To.reg ?_
  refine To.rd rfl rfl rfl (Rd.field rfl rfl fl56_2) ?_
  refine To.rd rfl rfl rfl (Rd.load (i := 1) rfl rfl c5 rfl (box_gives1 rfl)) ?_
  refine To.rd rfl rfl rfl (Rd.rem rfl rfl rfl (by omega) (by omega)) ?_
  refine To.rd rfl rfl rfl (Rd.conv rfl rfl Try.underlying5 Try.underlying3 (IntWalk.i64_in _ (by omega))) ?_
  refine To.rd rfl rfl rfl (Rd.field rfl rfl fl56_1) ?_
  refine To.rd rfl rfl rfl (Rd.load (i := 1) rfl rfl c5 rfl (box_gives1 rfl)) ?_
  refine To.rd rfl rfl rfl (Rd.rem rfl rfl rfl (by omega) (by omega)) ?_
  refine To.rd rfl rfl rfl (Rd.conv rfl rfl Try.underlying5 Try.underlying3 (IntWalk.i64_in _ (by omega))) ?_
  refine To.rd rfl rfl rfl (Rd.add64 rfl rfl rfl (by omega)) ?_
  refine To.rd rfl rfl rfl (Rd.field rfl rfl fl56_3) ?_
  refine To.rd rfl rfl rfl (Rd.load (i := 1) rfl rfl c5 rfl (box_gives1 rfl)) ?_
  refine To.rd rfl rfl rfl (Rd.rem rfl rfl rfl (by omega) (by omega)) ?_
  refine To.rd rfl rfl rfl (Rd.conv rfl rfl Try.underlying5 Try.underlying3 (IntWalk.i64_in _ (by omega))) ?_
  refine To.rd rfl rfl rfl (Rd.field rfl rfl fl56_5) ?_
  refine To.rd rfl rfl rfl (Rd.load (i := 1) rfl rfl c54 rfl (box_gives1 rfl)) ?_
  refine To.rd rfl rfl rfl (Rd.conv rfl rfl Try.underlying54 Try.underlying3 (IntWalk.i64_in _ (by omega))) ?_
  refine To.rd rfl rfl rfl (Rd.field rfl rfl fl56_7) ?_
  refine To.rd rfl rfl rfl (Rd.load (i := 1) rfl rfl c54 rfl (box_gives1 rfl)) ?_
  refine To.rd rfl rfl rfl (Rd.conv rfl rfl Try.underlying54 Try.underlying3 (IntWalk.i64_in _ (by omega))) ?_
  refine To.rd rfl rfl rfl (Rd.build (vs := [(0, .int .i64 (o.tick % 12)), (1, .int .i64 (4 + (o.src % 3))), (2, .int .i64 (o.cm % 3)), (4, .int .i64 o.n), (6, .int .i64 o.h)]) (cells := [.int .i64 (o.tick % 12), .int .i64 (4 + (o.src % 3)), .int .i64 (o.cm % 3), .int .i64 0, .int .i64 o.n, .int .i64 0, .int .i64 o.h, .slice none 0 0]) rfl rfl rfl (by kernel_rfl)) ?_
  refine To.alloc rfl rfl rfl rfl z30 (fun b3 => ?_)
  refine To.up rfl rfl (Up.storeS (i := 0) rfl rfl rfl r30 rfl rfl rfl (box_takesAll rfl)) ?_
  refine To.nil ?_
  refine To.sub [(0, .agg (Opr.cells o).toArray), (1, .pointer (some ⟨b1, 0, none⟩)), (2, .pointer (some ⟨b2, 0, none⟩)), (3, .pointer (some ⟨b3, 0, none⟩))] ⟨rfl, rfl, rfl, rfl, trivial⟩ ?_
  refine To.thenN ?_
  refine To.seq ?_
  refine To.seq ?_
  refine To.reg ?_
  refine To.rd rfl rfl rfl (Rd.field rfl rfl fl30_1) ?_
  refine To.rd rfl rfl rfl (Rd.load (i := 0) rfl rfl c3 rfl (box_gives1 rfl)) ?_
  refine To.rd rfl rfl rfl (Rd.eql rfl rfl rfl) ?_
  refine To.rdP rfl rfl rfl (Rd.move rfl rfl) (fun g29 => ?_) (fun g29 => ?_)
  ·
    refine To.sk rfl rfl rfl ?_
    refine To.sk rfl rfl rfl ?_
    refine To.sk rfl rfl rfl ?_
    refine To.rd rfl rfl rfl (Rd.pickT rfl rfl rfl) ?_
    refine To.nil ?_
    refine To.thenN ?_
    refine To.condT rfl ?_
    refine To.flow [box b1 [.int .u8 o.dd, .int .u8 o.src, .int .u8 o.tick, .int .u8 o.cm, .int .i8 o.p, .int .i8 o.n, .int .i8 o.k, .int .i8 o.h, .slice o.A o.args.length o.cap] 56] [⟨0, [], 0⟩, ⟨1, [], 0⟩, ⟨2, [], 0⟩, ⟨3, [], 0⟩, ⟨4, [], 0⟩, ⟨5, [], 0⟩, ⟨6, [], 0⟩, ⟨7, [], 5⟩, ⟨8, [], 0⟩, ⟨9, [], 5⟩] mixed (by kernel_rfl) (oks_cons (oks_at 2 rfl) (oks_nil _)) ?_
    refine FlowS.free rfl rfl rfl rfl (Rd.field rfl rfl fl56_4) ?_
    refine FlowS.free rfl rfl rfl rfl (Rd.load (i := 0) rfl rfl c54 rfl (box_gives1 rfl)) ?_
    refine FlowS.free rfl rfl rfl rfl (Rd.conv rfl rfl Try.underlying54 Try.underlying3 (IntWalk.i64_in _ (by omega))) ?_
    refine FlowS.free rfl rfl rfl rfl (Rd.field rfl rfl fl56_6) ?_
    refine FlowS.free rfl rfl rfl rfl (Rd.load (i := 0) rfl rfl c54 rfl (box_gives1 rfl)) ?_
    refine FlowS.free rfl rfl rfl rfl (Rd.conv rfl rfl Try.underlying54 Try.underlying3 (IntWalk.i64_in _ (by omega))) ?_
    refine FlowS.free rfl rfl rfl rfl (Rd.field rfl rfl fl30_3) ?_
    refine FlowS.up (Γ' := [box b3 [.int .i64 (o.tick % 12), .int .i64 (4 + (o.src % 3)), .int .i64 (o.cm % 3), .int .i64 o.p, .int .i64 o.n, .int .i64 0, .int .i64 o.h, .slice none 0 0] 30, box b2 [.int .i64 0, .int .i64 0, .int .i64 0, .int .i64 0, .int .i64 0, .int .i64 0, .int .i64 0, .slice none 0 0] 30, box b1 [.int .u8 o.dd, .int .u8 o.src, .int .u8 o.tick, .int .u8 o.cm, .int .i8 o.p, .int .i8 o.n, .int .i8 o.k, .int .i8 o.h, .slice o.A o.args.length o.cap] 56, ros encI o.A o.args]) rfl rfl rfl (Up.store (i := 0) rfl rfl rfl c3 rfl rfl (box_takes1 rfl)) (oks_cons (oks_at 2 rfl) (oks_nil _)) ?_
    refine FlowS.free rfl rfl rfl rfl (Rd.field rfl rfl fl30_5) ?_
    refine FlowS.up (Γ' := [box b3 [.int .i64 (o.tick % 12), .int .i64 (4 + (o.src % 3)), .int .i64 (o.cm % 3), .int .i64 o.p, .int .i64 o.n, .int .i64 o.k, .int .i64 o.h, .slice none 0 0] 30, box b2 [.int .i64 0, .int .i64 0, .int .i64 0, .int .i64 0, .int .i64 0, .int .i64 0, .int .i64 0, .slice none 0 0] 30, box b1 [.int .u8 o.dd, .int .u8 o.src, .int .u8 o.tick, .int .u8 o.cm, .int .i8 o.p, .int .i8 o.n, .int .i8 o.k, .int .i8 o.h, .slice o.A o.args.length o.cap] 56, ros encI o.A o.args]) rfl rfl rfl (Up.store (i := 0) rfl rfl rfl c3 rfl rfl (box_takes1 rfl)) (oks_cons (oks_at 2 rfl) (oks_nil _)) ?_
    refine FlowS.fin ?_
    refine To.as [box b3 [.int .i64 (o.tick % 12), .int .i64 (4 + (o.src % 3)), .int .i64 (o.cm % 3), .int .i64 o.p, .int .i64 o.n, .int .i64 o.k, .int .i64 o.h, .slice none 0 0] 30, box b2 [.int .i64 0, .int .i64 0, .int .i64 0, .int .i64 0, .int .i64 0, .int .i64 0, .int .i64 0, .slice none 0 0] 30, box b1 [.int .u8 o.dd, .int .u8 o.src, .int .u8 o.tick, .int .u8 o.cm, .int .i8 o.p, .int .i8 o.n, .int .i8 o.k, .int .i8 o.h, .slice o.A o.args.length o.cap] 56, ros encI o.A o.args] rfl ?_
    refine To.thenN ?_
    refine To.seq ?_
    refine To.seq ?_
    refine To.reg ?_
    refine To.rd rfl rfl rfl (Rd.field rfl rfl fl56_1) ?_
    refine To.rd rfl rfl rfl (Rd.load (i := 2) rfl rfl c5 rfl (box_gives1 rfl)) ?_
    refine To.rd rfl rfl rfl (Rd.geq rfl rfl rfl) ?_
    refine To.nil ?_
    refine To.thenN ?_
    refine To.condP rfl (fun c44 => ?_) (fun c44 => ?_)
    ·
      refine To.reg ?_
      refine To.rd rfl rfl rfl (Rd.field rfl rfl fl56_1) ?_
      refine To.rd rfl rfl rfl (Rd.load (i := 2) rfl rfl c5 rfl (box_gives1 rfl)) ?_
      refine To.rd rfl rfl rfl (Rd.conv rfl rfl Try.underlying5 Try.underlying3 (IntWalk.i64_in _ (by omega))) ?_
      refine To.rd rfl rfl rfl (Rd.sub64 rfl rfl rfl (by omega)) ?_
      refine To.rd rfl rfl rfl (Rd.field rfl rfl fl30_1) ?_
      refine To.up rfl rfl (Up.store (i := 0) rfl rfl rfl c3 rfl rfl (box_takes1 rfl)) ?_
      refine To.nil ?_
      refine To.thenN ?_
      refine To.seq ?_
      refine To.seq ?_
      refine To.nilRow encI 2 1 ?_
      refine To.reg ?_
      refine To.rd rfl rfl rfl (Rd.field rfl rfl fl56_8) ?_
      refine To.rd rfl rfl rfl (Rd.load (i := 3) rfl rfl c28 rfl (box_gives1 rfl)) ?_
      refine To.rd rfl rfl rfl (Rd.len rfl rfl Try.underlying28) ?_
      refine To.rd rfl rfl rfl (Rd.move rfl rfl) ?_
      refine To.nil ?_
      refine To.thenN ?_
      refine To.block ?_
      refine To.sub [(2, .pointer (some ⟨b2, 0, none⟩)), (3, .pointer (some ⟨b3, 0, none⟩)), (51, .slice o.A o.args.length o.cap), (52, .int .i64 ((o.args.length : Nat) : Int)), (53, .int .i64 ((0 : Nat) : Int))] ⟨rfl, rfl, rfl, rfl, rfl, trivial⟩ ?_
      refine To.only [0, 0, 0, 1] rfl ?_
      refine To.as [rows encI 2 1 none 0 ([] : List Int), box b3 [.int .i64 (o.tick % 12), .int .i64 (o.src - 248), .int .i64 (o.cm % 3), .int .i64 o.p, .int .i64 o.n, .int .i64 o.k, .int .i64 o.h, .slice none ([] : List Int).length 0] 30, box b2 [.int .i64 0, .int .i64 0, .int .i64 0, .int .i64 0, .int .i64 0, .int .i64 0, .int .i64 0, .slice none 0 0] 30, ros encI o.A o.args] rfl ?_
      refine To.loop (fun m ρ Γ => ∃ (j : Nat) (O : List Int) (A7 : Option Addr) (q7 : Nat), ρ = [(2, .pointer (some ⟨b2, 0, none⟩)), (3, .pointer (some ⟨b3, 0, none⟩)), (51, .slice o.A o.args.length o.cap), (52, .int .i64 ((o.args.length : Nat) : Int)), (53, .int .i64 ((j : Nat) : Int))] ∧ Γ = [rows encI 2 1 A7 q7 O, box b3 [.int .i64 (o.tick % 12), .int .i64 (o.src - 248), .int .i64 (o.cm % 3), .int .i64 o.p, .int .i64 o.n, .int .i64 o.k, .int .i64 o.h, .slice A7 O.length q7] 30, box b2 [.int .i64 0, .int .i64 0, .int .i64 0, .int .i64 0, .int .i64 0, .int .i64 0, .int .i64 0, .slice none 0 0] 30, ros encI o.A o.args] ∧ m = o.args.length - j ∧ (j ≤ o.args.length) ∧ (O = (o.args.take j).take 4)) (o.args.length - 0) ⟨0, ([] : List Int), none, 0, rfl, rfl, rfl, (Nat.zero_le _), (by simp)⟩ ?_
      rintro m _ _ ⟨j, O, A7, q7, rfl, rfl, rfl, hj, hO⟩
      have hOl : O.length ≤ 4 := by rw [hO]; exact List.length_take_le _ _
      refine To.seq ?_
      refine To.reg ?_
      refine To.rd rfl rfl rfl (Rd.lss rfl rfl rfl) ?_
      refine To.nil ?_
      refine To.thenN ?_
      refine To.seq ?_
      refine To.condP rfl (fun c54 => ?_) (fun c54 => ?_)
      ·
        obtain ⟨y, hy⟩ : ∃ y, o.args[j]? = some y := ⟨o.args[j]'(by omega), List.getElem?_eq_getElem _⟩
        refine To.skip ?_
        refine To.thenN ?_
        refine To.seq ?_
        refine To.block ?_
        refine To.seq ?_
        refine To.reg ?_
        refine To.rd rfl rfl rfl (Rd.move rfl rfl) ?_
        refine To.rd rfl rfl rfl (Rd.indexRos encI_ok (i := 3) (j := j) rfl rfl rfl s28 rfl hy) ?_
        refine To.rd rfl rfl rfl (Rd.load (i := 3) rfl rfl c2 rfl (gives_1 (ros_gives encI_ok hy) rfl)) ?_
        refine To.rd rfl rfl rfl (Rd.assign rfl rfl) ?_
        refine To.rd rfl rfl rfl (Rd.assign rfl rfl) ?_
        refine To.nil ?_
        refine To.thenN ?_
        refine To.seq ?_
        refine To.reg ?_
        refine To.rd rfl rfl rfl (Rd.move rfl rfl) ?_
        refine To.rd rfl rfl rfl (Rd.lss rfl rfl rfl) ?_
        refine To.nil ?_
        refine To.thenN ?_
        refine To.condP rfl (fun c59 => ?_) (fun c59 => ?_)
        ·
          refine To.reg ?_
          refine To.rd rfl rfl rfl (Rd.field rfl rfl fl30_7) ?_
          refine To.rd rfl rfl rfl (Rd.load (i := 1) rfl rfl c28 rfl (box_gives1 rfl)) ?_
          refine To.rd rfl rfl rfl (Rd.move rfl rfl) ?_
          refine To.mk rfl rfl rfl (Mk.sliceN (us := [.int .i64 y]) rfl s28 rfl rfl rfl rfl rfl rfl) ?_
          rintro _ _ ⟨b63, rfl, rfl⟩
          refine To.as [row 2 1 (some ⟨b63, 0, none⟩) 1 1 [.int .i64 y], rows encI 2 1 A7 q7 O, box b3 [.int .i64 (o.tick % 12), .int .i64 (o.src - 248), .int .i64 (o.cm % 3), .int .i64 o.p, .int .i64 o.n, .int .i64 o.k, .int .i64 o.h, .slice A7 O.length q7] 30, box b2 [.int .i64 0, .int .i64 0, .int .i64 0, .int .i64 0, .int .i64 0, .int .i64 0, .int .i64 0, .slice none 0 0] 30, ros encI o.A o.args] rfl ?_
          refine To.ge rfl rfl rfl (Ge.append1 encI_ok (i := 1) (j := 0) (el := y) rfl s28 rfl rfl rfl rfl rfl (by first | omega | (simp only [List.length_append, List.length_cons, List.length_nil]; omega)) (by first | omega | (simp only [List.length_append, List.length_cons, List.length_nil]; omega))) ?_
          rintro _ _ ⟨A64, q64, rfl, rfl⟩
          refine To.as [row 2 1 (some ⟨b63, 0, none⟩) 1 1 [.int .i64 y], rows encI 2 1 A64 q64 (O ++ [y]), box b3 [.int .i64 (o.tick % 12), .int .i64 (o.src - 248), .int .i64 (o.cm % 3), .int .i64 o.p, .int .i64 o.n, .int .i64 o.k, .int .i64 o.h, .slice A7 O.length q7] 30, box b2 [.int .i64 0, .int .i64 0, .int .i64 0, .int .i64 0, .int .i64 0, .int .i64 0, .int .i64 0, .slice none 0 0] 30, ros encI o.A o.args] rfl ?_
          refine To.rd rfl rfl rfl (Rd.field rfl rfl fl30_7) ?_
          refine To.up rfl rfl (Up.store (i := 2) rfl rfl rfl c28 rfl rfl (box_takes1 rfl)) ?_
          refine To.nil ?_
          refine To.blockN ?_
          refine To.thenN ?_
          refine To.reg ?_
          refine To.rd rfl rfl rfl (Rd.inc rfl rfl rfl (by omega)) ?_
          refine To.rd rfl rfl rfl (Rd.move rfl rfl) ?_
          refine To.nil ?_
          refine To.thenN ?_
          refine To.sub [(2, .pointer (some ⟨b2, 0, none⟩)), (3, .pointer (some ⟨b3, 0, none⟩)), (51, .slice o.A o.args.length o.cap), (52, .int .i64 ((o.args.length : Nat) : Int)), (53, .int .i64 (((j + 1) : Nat) : Int))] ⟨rfl, rfl, rfl, rfl, rfl, trivial⟩ ?_
          refine To.only [1, 1, 1, 1] rfl ?_
          refine To.again (o.args.length - (j + 1)) (by omega) ⟨j + 1, O ++ [y], A64, q64, rfl, rfl, rfl, (by omega), (made_yes hy (by omega) hO)⟩
        ·
          refine To.skip ?_
          refine To.blockN ?_
          refine To.thenN ?_
          refine To.reg ?_
          refine To.rd rfl rfl rfl (Rd.inc rfl rfl rfl (by omega)) ?_
          refine To.rd rfl rfl rfl (Rd.move rfl rfl) ?_
          refine To.nil ?_
          refine To.thenN ?_
          refine To.sub [(2, .pointer (some ⟨b2, 0, none⟩)), (3, .pointer (some ⟨b3, 0, none⟩)), (51, .slice o.A o.args.length o.cap), (52, .int .i64 ((o.args.length : Nat) : Int)), (53, .int .i64 (((j + 1) : Nat) : Int))] ⟨rfl, rfl, rfl, rfl, rfl, trivial⟩ ?_
          refine To.only [0, 0, 0, 0] rfl ?_
          refine To.again (o.args.length - (j + 1)) (by omega) ⟨j + 1, O, A7, q7, rfl, rfl, rfl, (by omega), (made_no hy (by omega) hO)⟩
      ·
        refine To.exit ?_
        refine To.thenX ?_
        refine To.thenX ?_
        refine To.blockX ?_
        refine To.thenN ?_
        refine To.seq ?_
        refine To.reg ?_
        refine To.rd rfl rfl rfl (Rd.loadS (i := 1) rfl rfl r30 rfl box_whole rfl) ?_
        refine To.up rfl rfl (Up.storeS (i := 2) rfl rfl rfl r30 rfl rfl rfl (box_takesAll rfl)) ?_
        refine To.nil ?_
        refine To.thenN ?_
        refine To.ret ?_
        refine To.endC [0] rfl (.inl rfl) Try.results31 rfl (i := 2) rfl r30 rfl ?_
        obtain rfl : j = o.args.length := by omega
        rw [List.take_length] at hO
        subst hO
        refine ⟨A7, q7, ?_, rfl⟩
        unfold Opr.en En.rcells mS mO
        first | (exfalso; omega) | (repeat (first | rw [if_pos (by omega)] | rw [if_neg (by omega)]))
    ·
      refine To.skip ?_
      refine To.thenN ?_
      refine To.seq ?_
      refine To.seq ?_
      refine To.nilRow encI 2 1 ?_
      refine To.reg ?_
      refine To.rd rfl rfl rfl (Rd.field rfl rfl fl56_8) ?_
      refine To.rd rfl rfl rfl (Rd.load (i := 3) rfl rfl c28 rfl (box_gives1 rfl)) ?_
      refine To.rd rfl rfl rfl (Rd.len rfl rfl Try.underlying28) ?_
      refine To.rd rfl rfl rfl (Rd.move rfl rfl) ?_
      refine To.nil ?_
      refine To.thenN ?_
      refine To.block ?_
      refine To.sub [(2, .pointer (some ⟨b2, 0, none⟩)), (3, .pointer (some ⟨b3, 0, none⟩)), (51, .slice o.A o.args.length o.cap), (52, .int .i64 ((o.args.length : Nat) : Int)), (53, .int .i64 ((0 : Nat) : Int))] ⟨rfl, rfl, rfl, rfl, rfl, trivial⟩ ?_
      refine To.only [0, 0, 0, 1] rfl ?_
      refine To.as [rows encI 2 1 none 0 ([] : List Int), box b3 [.int .i64 (o.tick % 12), .int .i64 (4 + (o.src % 3)), .int .i64 (o.cm % 3), .int .i64 o.p, .int .i64 o.n, .int .i64 o.k, .int .i64 o.h, .slice none ([] : List Int).length 0] 30, box b2 [.int .i64 0, .int .i64 0, .int .i64 0, .int .i64 0, .int .i64 0, .int .i64 0, .int .i64 0, .slice none 0 0] 30, ros encI o.A o.args] rfl ?_
      refine To.loop (fun m ρ Γ => ∃ (j : Nat) (O : List Int) (A7 : Option Addr) (q7 : Nat), ρ = [(2, .pointer (some ⟨b2, 0, none⟩)), (3, .pointer (some ⟨b3, 0, none⟩)), (51, .slice o.A o.args.length o.cap), (52, .int .i64 ((o.args.length : Nat) : Int)), (53, .int .i64 ((j : Nat) : Int))] ∧ Γ = [rows encI 2 1 A7 q7 O, box b3 [.int .i64 (o.tick % 12), .int .i64 (4 + (o.src % 3)), .int .i64 (o.cm % 3), .int .i64 o.p, .int .i64 o.n, .int .i64 o.k, .int .i64 o.h, .slice A7 O.length q7] 30, box b2 [.int .i64 0, .int .i64 0, .int .i64 0, .int .i64 0, .int .i64 0, .int .i64 0, .int .i64 0, .slice none 0 0] 30, ros encI o.A o.args] ∧ m = o.args.length - j ∧ (j ≤ o.args.length) ∧ (O = (o.args.take j).take 4)) (o.args.length - 0) ⟨0, ([] : List Int), none, 0, rfl, rfl, rfl, (Nat.zero_le _), (by simp)⟩ ?_
      rintro m _ _ ⟨j, O, A7, q7, rfl, rfl, rfl, hj, hO⟩
      have hOl : O.length ≤ 4 := by rw [hO]; exact List.length_take_le _ _
      refine To.seq ?_
      refine To.reg ?_
      refine To.rd rfl rfl rfl (Rd.lss rfl rfl rfl) ?_
      refine To.nil ?_
      refine To.thenN ?_
      refine To.seq ?_
      refine To.condP rfl (fun c54 => ?_) (fun c54 => ?_)
      ·
        obtain ⟨y, hy⟩ : ∃ y, o.args[j]? = some y := ⟨o.args[j]'(by omega), List.getElem?_eq_getElem _⟩
        refine To.skip ?_
        refine To.thenN ?_
        refine To.seq ?_
        refine To.block ?_
        refine To.seq ?_
        refine To.reg ?_
        refine To.rd rfl rfl rfl (Rd.move rfl rfl) ?_
        refine To.rd rfl rfl rfl (Rd.indexRos encI_ok (i := 3) (j := j) rfl rfl rfl s28 rfl hy) ?_
        refine To.rd rfl rfl rfl (Rd.load (i := 3) rfl rfl c2 rfl (gives_1 (ros_gives encI_ok hy) rfl)) ?_
        refine To.rd rfl rfl rfl (Rd.assign rfl rfl) ?_
        refine To.rd rfl rfl rfl (Rd.assign rfl rfl) ?_
        refine To.nil ?_
        refine To.thenN ?_
        refine To.seq ?_
        refine To.reg ?_
        refine To.rd rfl rfl rfl (Rd.move rfl rfl) ?_
        refine To.rd rfl rfl rfl (Rd.lss rfl rfl rfl) ?_
        refine To.nil ?_
        refine To.thenN ?_
        refine To.condP rfl (fun c59 => ?_) (fun c59 => ?_)
        ·
          refine To.reg ?_
          refine To.rd rfl rfl rfl (Rd.field rfl rfl fl30_7) ?_
          refine To.rd rfl rfl rfl (Rd.load (i := 1) rfl rfl c28 rfl (box_gives1 rfl)) ?_
          refine To.rd rfl rfl rfl (Rd.move rfl rfl) ?_
          refine To.mk rfl rfl rfl (Mk.sliceN (us := [.int .i64 y]) rfl s28 rfl rfl rfl rfl rfl rfl) ?_
          rintro _ _ ⟨b63_2, rfl, rfl⟩
          refine To.as [row 2 1 (some ⟨b63_2, 0, none⟩) 1 1 [.int .i64 y], rows encI 2 1 A7 q7 O, box b3 [.int .i64 (o.tick % 12), .int .i64 (4 + (o.src % 3)), .int .i64 (o.cm % 3), .int .i64 o.p, .int .i64 o.n, .int .i64 o.k, .int .i64 o.h, .slice A7 O.length q7] 30, box b2 [.int .i64 0, .int .i64 0, .int .i64 0, .int .i64 0, .int .i64 0, .int .i64 0, .int .i64 0, .slice none 0 0] 30, ros encI o.A o.args] rfl ?_
          refine To.ge rfl rfl rfl (Ge.append1 encI_ok (i := 1) (j := 0) (el := y) rfl s28 rfl rfl rfl rfl rfl (by first | omega | (simp only [List.length_append, List.length_cons, List.length_nil]; omega)) (by first | omega | (simp only [List.length_append, List.length_cons, List.length_nil]; omega))) ?_
          rintro _ _ ⟨A64_2, q64_2, rfl, rfl⟩
          refine To.as [row 2 1 (some ⟨b63_2, 0, none⟩) 1 1 [.int .i64 y], rows encI 2 1 A64_2 q64_2 (O ++ [y]), box b3 [.int .i64 (o.tick % 12), .int .i64 (4 + (o.src % 3)), .int .i64 (o.cm % 3), .int .i64 o.p, .int .i64 o.n, .int .i64 o.k, .int .i64 o.h, .slice A7 O.length q7] 30, box b2 [.int .i64 0, .int .i64 0, .int .i64 0, .int .i64 0, .int .i64 0, .int .i64 0, .int .i64 0, .slice none 0 0] 30, ros encI o.A o.args] rfl ?_
          refine To.rd rfl rfl rfl (Rd.field rfl rfl fl30_7) ?_
          refine To.up rfl rfl (Up.store (i := 2) rfl rfl rfl c28 rfl rfl (box_takes1 rfl)) ?_
          refine To.nil ?_
          refine To.blockN ?_
          refine To.thenN ?_
          refine To.reg ?_
          refine To.rd rfl rfl rfl (Rd.inc rfl rfl rfl (by omega)) ?_
          refine To.rd rfl rfl rfl (Rd.move rfl rfl) ?_
          refine To.nil ?_
          refine To.thenN ?_
          refine To.sub [(2, .pointer (some ⟨b2, 0, none⟩)), (3, .pointer (some ⟨b3, 0, none⟩)), (51, .slice o.A o.args.length o.cap), (52, .int .i64 ((o.args.length : Nat) : Int)), (53, .int .i64 (((j + 1) : Nat) : Int))] ⟨rfl, rfl, rfl, rfl, rfl, trivial⟩ ?_
          refine To.only [1, 1, 1, 1] rfl ?_
          refine To.again (o.args.length - (j + 1)) (by omega) ⟨j + 1, O ++ [y], A64_2, q64_2, rfl, rfl, rfl, (by omega), (made_yes hy (by omega) hO)⟩
        ·
          refine To.skip ?_
          refine To.blockN ?_
          refine To.thenN ?_
          refine To.reg ?_
          refine To.rd rfl rfl rfl (Rd.inc rfl rfl rfl (by omega)) ?_
          refine To.rd rfl rfl rfl (Rd.move rfl rfl) ?_
          refine To.nil ?_
          refine To.thenN ?_
          refine To.sub [(2, .pointer (some ⟨b2, 0, none⟩)), (3, .pointer (some ⟨b3, 0, none⟩)), (51, .slice o.A o.args.length o.cap), (52, .int .i64 ((o.args.length : Nat) : Int)), (53, .int .i64 (((j + 1) : Nat) : Int))] ⟨rfl, rfl, rfl, rfl, rfl, trivial⟩ ?_
          refine To.only [0, 0, 0, 0] rfl ?_
          refine To.again (o.args.length - (j + 1)) (by omega) ⟨j + 1, O, A7, q7, rfl, rfl, rfl, (by omega), (made_no hy (by omega) hO)⟩
      ·
        refine To.exit ?_
        refine To.thenX ?_
        refine To.thenX ?_
        refine To.blockX ?_
        refine To.thenN ?_
        refine To.seq ?_
        refine To.reg ?_
        refine To.rd rfl rfl rfl (Rd.loadS (i := 1) rfl rfl r30 rfl box_whole rfl) ?_
        refine To.up rfl rfl (Up.storeS (i := 2) rfl rfl rfl r30 rfl rfl rfl (box_takesAll rfl)) ?_
        refine To.nil ?_
        refine To.thenN ?_
        refine To.ret ?_
        refine To.endC [0] rfl (.inl rfl) Try.results31 rfl (i := 2) rfl r30 rfl ?_
        obtain rfl : j = o.args.length := by omega
        rw [List.take_length] at hO
        subst hO
        refine ⟨A7, q7, ?_, rfl⟩
        unfold Opr.en En.rcells mS mO
        first | (exfalso; omega) | (repeat (first | rw [if_pos (by omega)] | rw [if_neg (by omega)]))
  ·
    refine To.rd rfl rfl rfl (Rd.field rfl rfl fl56_1) ?_
    refine To.rd rfl rfl rfl (Rd.load (i := 2) rfl rfl c5 rfl (box_gives1 rfl)) ?_
    refine To.rd rfl rfl rfl (Rd.geq rfl rfl rfl) ?_
    refine To.rd rfl rfl rfl (Rd.pickF rfl rfl rfl) ?_
    refine To.nil ?_
    refine To.thenN ?_
    refine To.condP rfl (fun c33 => ?_) (fun c33 => ?_)
    ·
      refine To.flow [box b1 [.int .u8 o.dd, .int .u8 o.src, .int .u8 o.tick, .int .u8 o.cm, .int .i8 o.p, .int .i8 o.n, .int .i8 o.k, .int .i8 o.h, .slice o.A o.args.length o.cap] 56] [⟨0, [], 0⟩, ⟨1, [], 0⟩, ⟨2, [], 0⟩, ⟨3, [], 0⟩, ⟨4, [], 0⟩, ⟨5, [], 0⟩, ⟨6, [], 0⟩, ⟨7, [], 5⟩, ⟨8, [], 0⟩, ⟨9, [], 5⟩] mixed (by kernel_rfl) (oks_cons (oks_at 2 rfl) (oks_nil _)) ?_
      refine FlowS.free rfl rfl rfl rfl (Rd.field rfl rfl fl56_4) ?_
      refine FlowS.free rfl rfl rfl rfl (Rd.load (i := 0) rfl rfl c54 rfl (box_gives1 rfl)) ?_
      refine FlowS.free rfl rfl rfl rfl (Rd.conv rfl rfl Try.underlying54 Try.underlying3 (IntWalk.i64_in _ (by omega))) ?_
      refine FlowS.free rfl rfl rfl rfl (Rd.field rfl rfl fl56_6) ?_
      refine FlowS.free rfl rfl rfl rfl (Rd.load (i := 0) rfl rfl c54 rfl (box_gives1 rfl)) ?_
      refine FlowS.free rfl rfl rfl rfl (Rd.conv rfl rfl Try.underlying54 Try.underlying3 (IntWalk.i64_in _ (by omega))) ?_
      refine FlowS.free rfl rfl rfl rfl (Rd.field rfl rfl fl30_3) ?_
      refine FlowS.up (Γ' := [box b3 [.int .i64 (o.tick % 12), .int .i64 (4 + (o.src % 3)), .int .i64 (o.cm % 3), .int .i64 o.p, .int .i64 o.n, .int .i64 0, .int .i64 o.h, .slice none 0 0] 30, box b2 [.int .i64 0, .int .i64 0, .int .i64 0, .int .i64 0, .int .i64 0, .int .i64 0, .int .i64 0, .slice none 0 0] 30, box b1 [.int .u8 o.dd, .int .u8 o.src, .int .u8 o.tick, .int .u8 o.cm, .int .i8 o.p, .int .i8 o.n, .int .i8 o.k, .int .i8 o.h, .slice o.A o.args.length o.cap] 56, ros encI o.A o.args]) rfl rfl rfl (Up.store (i := 0) rfl rfl rfl c3 rfl rfl (box_takes1 rfl)) (oks_cons (oks_at 2 rfl) (oks_nil _)) ?_
      refine FlowS.free rfl rfl rfl rfl (Rd.field rfl rfl fl30_5) ?_
      refine FlowS.up (Γ' := [box b3 [.int .i64 (o.tick % 12), .int .i64 (4 + (o.src % 3)), .int .i64 (o.cm % 3), .int .i64 o.p, .int .i64 o.n, .int .i64 o.k, .int .i64 o.h, .slice none 0 0] 30, box b2 [.int .i64 0, .int .i64 0, .int .i64 0, .int .i64 0, .int .i64 0, .int .i64 0, .int .i64 0, .slice none 0 0] 30, box b1 [.int .u8 o.dd, .int .u8 o.src, .int .u8 o.tick, .int .u8 o.cm, .int .i8 o.p, .int .i8 o.n, .int .i8 o.k, .int .i8 o.h, .slice o.A o.args.length o.cap] 56, ros encI o.A o.args]) rfl rfl rfl (Up.store (i := 0) rfl rfl rfl c3 rfl rfl (box_takes1 rfl)) (oks_cons (oks_at 2 rfl) (oks_nil _)) ?_
      refine FlowS.fin ?_
      refine To.as [box b3 [.int .i64 (o.tick % 12), .int .i64 (4 + (o.src % 3)), .int .i64 (o.cm % 3), .int .i64 o.p, .int .i64 o.n, .int .i64 o.k, .int .i64 o.h, .slice none 0 0] 30, box b2 [.int .i64 0, .int .i64 0, .int .i64 0, .int .i64 0, .int .i64 0, .int .i64 0, .int .i64 0, .slice none 0 0] 30, box b1 [.int .u8 o.dd, .int .u8 o.src, .int .u8 o.tick, .int .u8 o.cm, .int .i8 o.p, .int .i8 o.n, .int .i8 o.k, .int .i8 o.h, .slice o.A o.args.length o.cap] 56, ros encI o.A o.args] rfl ?_
      refine To.thenN ?_
      refine To.seq ?_
      refine To.seq ?_
      refine To.reg ?_
      refine To.rd rfl rfl rfl (Rd.field rfl rfl fl56_1) ?_
      refine To.rd rfl rfl rfl (Rd.load (i := 2) rfl rfl c5 rfl (box_gives1 rfl)) ?_
      refine To.rd rfl rfl rfl (Rd.geq rfl rfl rfl) ?_
      refine To.nil ?_
      refine To.thenN ?_
      refine To.condP rfl (fun c44 => ?_) (fun c44 => ?_)
      ·
        refine To.reg ?_
        refine To.rd rfl rfl rfl (Rd.field rfl rfl fl56_1) ?_
        refine To.rd rfl rfl rfl (Rd.load (i := 2) rfl rfl c5 rfl (box_gives1 rfl)) ?_
        refine To.rd rfl rfl rfl (Rd.conv rfl rfl Try.underlying5 Try.underlying3 (IntWalk.i64_in _ (by omega))) ?_
        refine To.rd rfl rfl rfl (Rd.sub64 rfl rfl rfl (by omega)) ?_
        refine To.rd rfl rfl rfl (Rd.field rfl rfl fl30_1) ?_
        refine To.up rfl rfl (Up.store (i := 0) rfl rfl rfl c3 rfl rfl (box_takes1 rfl)) ?_
        refine To.nil ?_
        refine To.thenN ?_
        refine To.seq ?_
        refine To.seq ?_
        refine To.nilRow encI 2 1 ?_
        refine To.reg ?_
        refine To.rd rfl rfl rfl (Rd.field rfl rfl fl56_8) ?_
        refine To.rd rfl rfl rfl (Rd.load (i := 3) rfl rfl c28 rfl (box_gives1 rfl)) ?_
        refine To.rd rfl rfl rfl (Rd.len rfl rfl Try.underlying28) ?_
        refine To.rd rfl rfl rfl (Rd.move rfl rfl) ?_
        refine To.nil ?_
        refine To.thenN ?_
        refine To.block ?_
        refine To.sub [(2, .pointer (some ⟨b2, 0, none⟩)), (3, .pointer (some ⟨b3, 0, none⟩)), (51, .slice o.A o.args.length o.cap), (52, .int .i64 ((o.args.length : Nat) : Int)), (53, .int .i64 ((0 : Nat) : Int))] ⟨rfl, rfl, rfl, rfl, rfl, trivial⟩ ?_
        refine To.only [0, 0, 0, 1] rfl ?_
        refine To.as [rows encI 2 1 none 0 ([] : List Int), box b3 [.int .i64 (o.tick % 12), .int .i64 (o.src - 248), .int .i64 (o.cm % 3), .int .i64 o.p, .int .i64 o.n, .int .i64 o.k, .int .i64 o.h, .slice none ([] : List Int).length 0] 30, box b2 [.int .i64 0, .int .i64 0, .int .i64 0, .int .i64 0, .int .i64 0, .int .i64 0, .int .i64 0, .slice none 0 0] 30, ros encI o.A o.args] rfl ?_
        refine To.loop (fun m ρ Γ => ∃ (j : Nat) (O : List Int) (A7 : Option Addr) (q7 : Nat), ρ = [(2, .pointer (some ⟨b2, 0, none⟩)), (3, .pointer (some ⟨b3, 0, none⟩)), (51, .slice o.A o.args.length o.cap), (52, .int .i64 ((o.args.length : Nat) : Int)), (53, .int .i64 ((j : Nat) : Int))] ∧ Γ = [rows encI 2 1 A7 q7 O, box b3 [.int .i64 (o.tick % 12), .int .i64 (o.src - 248), .int .i64 (o.cm % 3), .int .i64 o.p, .int .i64 o.n, .int .i64 o.k, .int .i64 o.h, .slice A7 O.length q7] 30, box b2 [.int .i64 0, .int .i64 0, .int .i64 0, .int .i64 0, .int .i64 0, .int .i64 0, .int .i64 0, .slice none 0 0] 30, ros encI o.A o.args] ∧ m = o.args.length - j ∧ (j ≤ o.args.length) ∧ (O = (o.args.take j).take 4)) (o.args.length - 0) ⟨0, ([] : List Int), none, 0, rfl, rfl, rfl, (Nat.zero_le _), (by simp)⟩ ?_
        rintro m _ _ ⟨j, O, A7, q7, rfl, rfl, rfl, hj, hO⟩
        have hOl : O.length ≤ 4 := by rw [hO]; exact List.length_take_le _ _
        refine To.seq ?_
        refine To.reg ?_
        refine To.rd rfl rfl rfl (Rd.lss rfl rfl rfl) ?_
        refine To.nil ?_
        refine To.thenN ?_
        refine To.seq ?_
        refine To.condP rfl (fun c54 => ?_) (fun c54 => ?_)
        ·
          obtain ⟨y, hy⟩ : ∃ y, o.args[j]? = some y := ⟨o.args[j]'(by omega), List.getElem?_eq_getElem _⟩
          refine To.skip ?_
          refine To.thenN ?_
          refine To.seq ?_
          refine To.block ?_
          refine To.seq ?_
          refine To.reg ?_
          refine To.rd rfl rfl rfl (Rd.move rfl rfl) ?_
          refine To.rd rfl rfl rfl (Rd.indexRos encI_ok (i := 3) (j := j) rfl rfl rfl s28 rfl hy) ?_
          refine To.rd rfl rfl rfl (Rd.load (i := 3) rfl rfl c2 rfl (gives_1 (ros_gives encI_ok hy) rfl)) ?_
          refine To.rd rfl rfl rfl (Rd.assign rfl rfl) ?_
          refine To.rd rfl rfl rfl (Rd.assign rfl rfl) ?_
          refine To.nil ?_
          refine To.thenN ?_
          refine To.seq ?_
          refine To.reg ?_
          refine To.rd rfl rfl rfl (Rd.move rfl rfl) ?_
          refine To.rd rfl rfl rfl (Rd.lss rfl rfl rfl) ?_
          refine To.nil ?_
          refine To.thenN ?_
          refine To.condP rfl (fun c59 => ?_) (fun c59 => ?_)
          ·
            refine To.reg ?_
            refine To.rd rfl rfl rfl (Rd.field rfl rfl fl30_7) ?_
            refine To.rd rfl rfl rfl (Rd.load (i := 1) rfl rfl c28 rfl (box_gives1 rfl)) ?_
            refine To.rd rfl rfl rfl (Rd.move rfl rfl) ?_
            refine To.mk rfl rfl rfl (Mk.sliceN (us := [.int .i64 y]) rfl s28 rfl rfl rfl rfl rfl rfl) ?_
            rintro _ _ ⟨b63_3, rfl, rfl⟩
            refine To.as [row 2 1 (some ⟨b63_3, 0, none⟩) 1 1 [.int .i64 y], rows encI 2 1 A7 q7 O, box b3 [.int .i64 (o.tick % 12), .int .i64 (o.src - 248), .int .i64 (o.cm % 3), .int .i64 o.p, .int .i64 o.n, .int .i64 o.k, .int .i64 o.h, .slice A7 O.length q7] 30, box b2 [.int .i64 0, .int .i64 0, .int .i64 0, .int .i64 0, .int .i64 0, .int .i64 0, .int .i64 0, .slice none 0 0] 30, ros encI o.A o.args] rfl ?_
            refine To.ge rfl rfl rfl (Ge.append1 encI_ok (i := 1) (j := 0) (el := y) rfl s28 rfl rfl rfl rfl rfl (by first | omega | (simp only [List.length_append, List.length_cons, List.length_nil]; omega)) (by first | omega | (simp only [List.length_append, List.length_cons, List.length_nil]; omega))) ?_
            rintro _ _ ⟨A64_3, q64_3, rfl, rfl⟩
            refine To.as [row 2 1 (some ⟨b63_3, 0, none⟩) 1 1 [.int .i64 y], rows encI 2 1 A64_3 q64_3 (O ++ [y]), box b3 [.int .i64 (o.tick % 12), .int .i64 (o.src - 248), .int .i64 (o.cm % 3), .int .i64 o.p, .int .i64 o.n, .int .i64 o.k, .int .i64 o.h, .slice A7 O.length q7] 30, box b2 [.int .i64 0, .int .i64 0, .int .i64 0, .int .i64 0, .int .i64 0, .int .i64 0, .int .i64 0, .slice none 0 0] 30, ros encI o.A o.args] rfl ?_
            refine To.rd rfl rfl rfl (Rd.field rfl rfl fl30_7) ?_
            refine To.up rfl rfl (Up.store (i := 2) rfl rfl rfl c28 rfl rfl (box_takes1 rfl)) ?_
            refine To.nil ?_
            refine To.blockN ?_
            refine To.thenN ?_
            refine To.reg ?_
            refine To.rd rfl rfl rfl (Rd.inc rfl rfl rfl (by omega)) ?_
            refine To.rd rfl rfl rfl (Rd.move rfl rfl) ?_
            refine To.nil ?_
            refine To.thenN ?_
            refine To.sub [(2, .pointer (some ⟨b2, 0, none⟩)), (3, .pointer (some ⟨b3, 0, none⟩)), (51, .slice o.A o.args.length o.cap), (52, .int .i64 ((o.args.length : Nat) : Int)), (53, .int .i64 (((j + 1) : Nat) : Int))] ⟨rfl, rfl, rfl, rfl, rfl, trivial⟩ ?_
            refine To.only [1, 1, 1, 1] rfl ?_
            refine To.again (o.args.length - (j + 1)) (by omega) ⟨j + 1, O ++ [y], A64_3, q64_3, rfl, rfl, rfl, (by omega), (made_yes hy (by omega) hO)⟩
          ·
            refine To.skip ?_
            refine To.blockN ?_
            refine To.thenN ?_
            refine To.reg ?_
            refine To.rd rfl rfl rfl (Rd.inc rfl rfl rfl (by omega)) ?_
            refine To.rd rfl rfl rfl (Rd.move rfl rfl) ?_
            refine To.nil ?_
            refine To.thenN ?_
            refine To.sub [(2, .pointer (some ⟨b2, 0, none⟩)), (3, .pointer (some ⟨b3, 0, none⟩)), (51, .slice o.A o.args.length o.cap), (52, .int .i64 ((o.args.length : Nat) : Int)), (53, .int .i64 (((j + 1) : Nat) : Int))] ⟨rfl, rfl, rfl, rfl, rfl, trivial⟩ ?_
            refine To.only [0, 0, 0, 0] rfl ?_
            refine To.again (o.args.length - (j + 1)) (by omega) ⟨j + 1, O, A7, q7, rfl, rfl, rfl, (by omega), (made_no hy (by omega) hO)⟩
        ·
          refine To.exit ?_
          refine To.thenX ?_
          refine To.thenX ?_
          refine To.blockX ?_
          refine To.thenN ?_
          refine To.seq ?_
          refine To.reg ?_
          refine To.rd rfl rfl rfl (Rd.loadS (i := 1) rfl rfl r30 rfl box_whole rfl) ?_
          refine To.up rfl rfl (Up.storeS (i := 2) rfl rfl rfl r30 rfl rfl rfl (box_takesAll rfl)) ?_
          refine To.nil ?_
          refine To.thenN ?_
          refine To.ret ?_
          refine To.endC [0] rfl (.inl rfl) Try.results31 rfl (i := 2) rfl r30 rfl ?_
          obtain rfl : j = o.args.length := by omega
          rw [List.take_length] at hO
          subst hO
          refine ⟨A7, q7, ?_, rfl⟩
          unfold Opr.en En.rcells mS mO
          first | (exfalso; omega) | (repeat (first | rw [if_pos (by omega)] | rw [if_neg (by omega)]))
      ·
        refine To.skip ?_
        refine To.thenN ?_
        refine To.seq ?_
        refine To.seq ?_
        refine To.nilRow encI 2 1 ?_
        refine To.reg ?_
        refine To.rd rfl rfl rfl (Rd.field rfl rfl fl56_8) ?_
        refine To.rd rfl rfl rfl (Rd.load (i := 3) rfl rfl c28 rfl (box_gives1 rfl)) ?_
        refine To.rd rfl rfl rfl (Rd.len rfl rfl Try.underlying28) ?_
        refine To.rd rfl rfl rfl (Rd.move rfl rfl) ?_
        refine To.nil ?_
        refine To.thenN ?_
        refine To.block ?_
        refine To.sub [(2, .pointer (some ⟨b2, 0, none⟩)), (3, .pointer (some ⟨b3, 0, none⟩)), (51, .slice o.A o.args.length o.cap), (52, .int .i64 ((o.args.length : Nat) : Int)), (53, .int .i64 ((0 : Nat) : Int))] ⟨rfl, rfl, rfl, rfl, rfl, trivial⟩ ?_
        refine To.only [0, 0, 0, 1] rfl ?_
        refine To.as [rows encI 2 1 none 0 ([] : List Int), box b3 [.int .i64 (o.tick % 12), .int .i64 (4 + (o.src % 3)), .int .i64 (o.cm % 3), .int .i64 o.p, .int .i64 o.n, .int .i64 o.k, .int .i64 o.h, .slice none ([] : List Int).length 0] 30, box b2 [.int .i64 0, .int .i64 0, .int .i64 0, .int .i64 0, .int .i64 0, .int .i64 0, .int .i64 0, .slice none 0 0] 30, ros encI o.A o.args] rfl ?_
        refine To.loop (fun m ρ Γ => ∃ (j : Nat) (O : List Int) (A7 : Option Addr) (q7 : Nat), ρ = [(2, .pointer (some ⟨b2, 0, none⟩)), (3, .pointer (some ⟨b3, 0, none⟩)), (51, .slice o.A o.args.length o.cap), (52, .int .i64 ((o.args.length : Nat) : Int)), (53, .int .i64 ((j : Nat) : Int))] ∧ Γ = [rows encI 2 1 A7 q7 O, box b3 [.int .i64 (o.tick % 12), .int .i64 (4 + (o.src % 3)), .int .i64 (o.cm % 3), .int .i64 o.p, .int .i64 o.n, .int .i64 o.k, .int .i64 o.h, .slice A7 O.length q7] 30, box b2 [.int .i64 0, .int .i64 0, .int .i64 0, .int .i64 0, .int .i64 0, .int .i64 0, .int .i64 0, .slice none 0 0] 30, ros encI o.A o.args] ∧ m = o.args.length - j ∧ (j ≤ o.args.length) ∧ (O = (o.args.take j).take 4)) (o.args.length - 0) ⟨0, ([] : List Int), none, 0, rfl, rfl, rfl, (Nat.zero_le _), (by simp)⟩ ?_
        rintro m _ _ ⟨j, O, A7, q7, rfl, rfl, rfl, hj, hO⟩
        have hOl : O.length ≤ 4 := by rw [hO]; exact List.length_take_le _ _
        refine To.seq ?_
        refine To.reg ?_
        refine To.rd rfl rfl rfl (Rd.lss rfl rfl rfl) ?_
        refine To.nil ?_
        refine To.thenN ?_
        refine To.seq ?_
        refine To.condP rfl (fun c54 => ?_) (fun c54 => ?_)
        ·
          obtain ⟨y, hy⟩ : ∃ y, o.args[j]? = some y := ⟨o.args[j]'(by omega), List.getElem?_eq_getElem _⟩
          refine To.skip ?_
          refine To.thenN ?_
          refine To.seq ?_
          refine To.block ?_
          refine To.seq ?_
          refine To.reg ?_
          refine To.rd rfl rfl rfl (Rd.move rfl rfl) ?_
          refine To.rd rfl rfl rfl (Rd.indexRos encI_ok (i := 3) (j := j) rfl rfl rfl s28 rfl hy) ?_
          refine To.rd rfl rfl rfl (Rd.load (i := 3) rfl rfl c2 rfl (gives_1 (ros_gives encI_ok hy) rfl)) ?_
          refine To.rd rfl rfl rfl (Rd.assign rfl rfl) ?_
          refine To.rd rfl rfl rfl (Rd.assign rfl rfl) ?_
          refine To.nil ?_
          refine To.thenN ?_
          refine To.seq ?_
          refine To.reg ?_
          refine To.rd rfl rfl rfl (Rd.move rfl rfl) ?_
          refine To.rd rfl rfl rfl (Rd.lss rfl rfl rfl) ?_
          refine To.nil ?_
          refine To.thenN ?_
          refine To.condP rfl (fun c59 => ?_) (fun c59 => ?_)
          ·
            refine To.reg ?_
            refine To.rd rfl rfl rfl (Rd.field rfl rfl fl30_7) ?_
            refine To.rd rfl rfl rfl (Rd.load (i := 1) rfl rfl c28 rfl (box_gives1 rfl)) ?_
            refine To.rd rfl rfl rfl (Rd.move rfl rfl) ?_
            refine To.mk rfl rfl rfl (Mk.sliceN (us := [.int .i64 y]) rfl s28 rfl rfl rfl rfl rfl rfl) ?_
            rintro _ _ ⟨b63_4, rfl, rfl⟩
            refine To.as [row 2 1 (some ⟨b63_4, 0, none⟩) 1 1 [.int .i64 y], rows encI 2 1 A7 q7 O, box b3 [.int .i64 (o.tick % 12), .int .i64 (4 + (o.src % 3)), .int .i64 (o.cm % 3), .int .i64 o.p, .int .i64 o.n, .int .i64 o.k, .int .i64 o.h, .slice A7 O.length q7] 30, box b2 [.int .i64 0, .int .i64 0, .int .i64 0, .int .i64 0, .int .i64 0, .int .i64 0, .int .i64 0, .slice none 0 0] 30, ros encI o.A o.args] rfl ?_
            refine To.ge rfl rfl rfl (Ge.append1 encI_ok (i := 1) (j := 0) (el := y) rfl s28 rfl rfl rfl rfl rfl (by first | omega | (simp only [List.length_append, List.length_cons, List.length_nil]; omega)) (by first | omega | (simp only [List.length_append, List.length_cons, List.length_nil]; omega))) ?_
            rintro _ _ ⟨A64_4, q64_4, rfl, rfl⟩
            refine To.as [row 2 1 (some ⟨b63_4, 0, none⟩) 1 1 [.int .i64 y], rows encI 2 1 A64_4 q64_4 (O ++ [y]), box b3 [.int .i64 (o.tick % 12), .int .i64 (4 + (o.src % 3)), .int .i64 (o.cm % 3), .int .i64 o.p, .int .i64 o.n, .int .i64 o.k, .int .i64 o.h, .slice A7 O.length q7] 30, box b2 [.int .i64 0, .int .i64 0, .int .i64 0, .int .i64 0, .int .i64 0, .int .i64 0, .int .i64 0, .slice none 0 0] 30, ros encI o.A o.args] rfl ?_
            refine To.rd rfl rfl rfl (Rd.field rfl rfl fl30_7) ?_
            refine To.up rfl rfl (Up.store (i := 2) rfl rfl rfl c28 rfl rfl (box_takes1 rfl)) ?_
            refine To.nil ?_
            refine To.blockN ?_
            refine To.thenN ?_
            refine To.reg ?_
            refine To.rd rfl rfl rfl (Rd.inc rfl rfl rfl (by omega)) ?_
            refine To.rd rfl rfl rfl (Rd.move rfl rfl) ?_
            refine To.nil ?_
            refine To.thenN ?_
            refine To.sub [(2, .pointer (some ⟨b2, 0, none⟩)), (3, .pointer (some ⟨b3, 0, none⟩)), (51, .slice o.A o.args.length o.cap), (52, .int .i64 ((o.args.length : Nat) : Int)), (53, .int .i64 (((j + 1) : Nat) : Int))] ⟨rfl, rfl, rfl, rfl, rfl, trivial⟩ ?_
            refine To.only [1, 1, 1, 1] rfl ?_
            refine To.again (o.args.length - (j + 1)) (by omega) ⟨j + 1, O ++ [y], A64_4, q64_4, rfl, rfl, rfl, (by omega), (made_yes hy (by omega) hO)⟩
          ·
            refine To.skip ?_
            refine To.blockN ?_
            refine To.thenN ?_
            refine To.reg ?_
            refine To.rd rfl rfl rfl (Rd.inc rfl rfl rfl (by omega)) ?_
            refine To.rd rfl rfl rfl (Rd.move rfl rfl) ?_
            refine To.nil ?_
            refine To.thenN ?_
            refine To.sub [(2, .pointer (some ⟨b2, 0, none⟩)), (3, .pointer (some ⟨b3, 0, none⟩)), (51, .slice o.A o.args.length o.cap), (52, .int .i64 ((o.args.length : Nat) : Int)), (53, .int .i64 (((j + 1) : Nat) : Int))] ⟨rfl, rfl, rfl, rfl, rfl, trivial⟩ ?_
            refine To.only [0, 0, 0, 0] rfl ?_
            refine To.again (o.args.length - (j + 1)) (by omega) ⟨j + 1, O, A7, q7, rfl, rfl, rfl, (by omega), (made_no hy (by omega) hO)⟩
        ·
          refine To.exit ?_
          refine To.thenX ?_
          refine To.thenX ?_
          refine To.blockX ?_
          refine To.thenN ?_
          refine To.seq ?_
          refine To.reg ?_
          refine To.rd rfl rfl rfl (Rd.loadS (i := 1) rfl rfl r30 rfl box_whole rfl) ?_
          refine To.up rfl rfl (Up.storeS (i := 2) rfl rfl rfl r30 rfl rfl rfl (box_takesAll rfl)) ?_
          refine To.nil ?_
          refine To.thenN ?_
          refine To.ret ?_
          refine To.endC [0] rfl (.inl rfl) Try.results31 rfl (i := 2) rfl r30 rfl ?_
          obtain rfl : j = o.args.length := by omega
          rw [List.take_length] at hO
          subst hO
          refine ⟨A7, q7, ?_, rfl⟩
          unfold Opr.en En.rcells mS mO
          first | (exfalso; omega) | (repeat (first | rw [if_pos (by omega)] | rw [if_neg (by omega)]))
    ·
      refine To.skip ?_
      refine To.thenN ?_
      refine To.seq ?_
      refine To.seq ?_
      refine To.reg ?_
      refine To.rd rfl rfl rfl (Rd.field rfl rfl fl56_1) ?_
      refine To.rd rfl rfl rfl (Rd.load (i := 2) rfl rfl c5 rfl (box_gives1 rfl)) ?_
      refine To.rd rfl rfl rfl (Rd.geq rfl rfl rfl) ?_
      refine To.nil ?_
      refine To.thenN ?_
      refine To.condP rfl (fun c44 => ?_) (fun c44 => ?_)
      ·
        refine To.reg ?_
        refine To.rd rfl rfl rfl (Rd.field rfl rfl fl56_1) ?_
        refine To.rd rfl rfl rfl (Rd.load (i := 2) rfl rfl c5 rfl (box_gives1 rfl)) ?_
        refine To.rd rfl rfl rfl (Rd.conv rfl rfl Try.underlying5 Try.underlying3 (IntWalk.i64_in _ (by omega))) ?_
        refine To.rd rfl rfl rfl (Rd.sub64 rfl rfl rfl (by omega)) ?_
        refine To.rd rfl rfl rfl (Rd.field rfl rfl fl30_1) ?_
        refine To.up rfl rfl (Up.store (i := 0) rfl rfl rfl c3 rfl rfl (box_takes1 rfl)) ?_
        refine To.nil ?_
        refine To.thenN ?_
        refine To.seq ?_
        refine To.seq ?_
        refine To.nilRow encI 2 1 ?_
        refine To.reg ?_
        refine To.rd rfl rfl rfl (Rd.field rfl rfl fl56_8) ?_
        refine To.rd rfl rfl rfl (Rd.load (i := 3) rfl rfl c28 rfl (box_gives1 rfl)) ?_
        refine To.rd rfl rfl rfl (Rd.len rfl rfl Try.underlying28) ?_
        refine To.rd rfl rfl rfl (Rd.move rfl rfl) ?_
        refine To.nil ?_
        refine To.thenN ?_
        refine To.block ?_
        refine To.sub [(2, .pointer (some ⟨b2, 0, none⟩)), (3, .pointer (some ⟨b3, 0, none⟩)), (51, .slice o.A o.args.length o.cap), (52, .int .i64 ((o.args.length : Nat) : Int)), (53, .int .i64 ((0 : Nat) : Int))] ⟨rfl, rfl, rfl, rfl, rfl, trivial⟩ ?_
        refine To.only [0, 0, 0, 1] rfl ?_
        refine To.as [rows encI 2 1 none 0 ([] : List Int), box b3 [.int .i64 (o.tick % 12), .int .i64 (o.src - 248), .int .i64 (o.cm % 3), .int .i64 0, .int .i64 o.n, .int .i64 0, .int .i64 o.h, .slice none ([] : List Int).length 0] 30, box b2 [.int .i64 0, .int .i64 0, .int .i64 0, .int .i64 0, .int .i64 0, .int .i64 0, .int .i64 0, .slice none 0 0] 30, ros encI o.A o.args] rfl ?_
        refine To.loop (fun m ρ Γ => ∃ (j : Nat) (O : List Int) (A7 : Option Addr) (q7 : Nat), ρ = [(2, .pointer (some ⟨b2, 0, none⟩)), (3, .pointer (some ⟨b3, 0, none⟩)), (51, .slice o.A o.args.length o.cap), (52, .int .i64 ((o.args.length : Nat) : Int)), (53, .int .i64 ((j : Nat) : Int))] ∧ Γ = [rows encI 2 1 A7 q7 O, box b3 [.int .i64 (o.tick % 12), .int .i64 (o.src - 248), .int .i64 (o.cm % 3), .int .i64 0, .int .i64 o.n, .int .i64 0, .int .i64 o.h, .slice A7 O.length q7] 30, box b2 [.int .i64 0, .int .i64 0, .int .i64 0, .int .i64 0, .int .i64 0, .int .i64 0, .int .i64 0, .slice none 0 0] 30, ros encI o.A o.args] ∧ m = o.args.length - j ∧ (j ≤ o.args.length) ∧ (O = (o.args.take j).take 4)) (o.args.length - 0) ⟨0, ([] : List Int), none, 0, rfl, rfl, rfl, (Nat.zero_le _), (by simp)⟩ ?_
        rintro m _ _ ⟨j, O, A7, q7, rfl, rfl, rfl, hj, hO⟩
        have hOl : O.length ≤ 4 := by rw [hO]; exact List.length_take_le _ _
        refine To.seq ?_
        refine To.reg ?_
        refine To.rd rfl rfl rfl (Rd.lss rfl rfl rfl) ?_
        refine To.nil ?_
        refine To.thenN ?_
        refine To.seq ?_
        refine To.condP rfl (fun c54 => ?_) (fun c54 => ?_)
        ·
          obtain ⟨y, hy⟩ : ∃ y, o.args[j]? = some y := ⟨o.args[j]'(by omega), List.getElem?_eq_getElem _⟩
          refine To.skip ?_
          refine To.thenN ?_
          refine To.seq ?_
          refine To.block ?_
          refine To.seq ?_
          refine To.reg ?_
          refine To.rd rfl rfl rfl (Rd.move rfl rfl) ?_
          refine To.rd rfl rfl rfl (Rd.indexRos encI_ok (i := 3) (j := j) rfl rfl rfl s28 rfl hy) ?_
          refine To.rd rfl rfl rfl (Rd.load (i := 3) rfl rfl c2 rfl (gives_1 (ros_gives encI_ok hy) rfl)) ?_
          refine To.rd rfl rfl rfl (Rd.assign rfl rfl) ?_
          refine To.rd rfl rfl rfl (Rd.assign rfl rfl) ?_
          refine To.nil ?_
          refine To.thenN ?_
          refine To.seq ?_
          refine To.reg ?_
          refine To.rd rfl rfl rfl (Rd.move rfl rfl) ?_
          refine To.rd rfl rfl rfl (Rd.lss rfl rfl rfl) ?_
          refine To.nil ?_
          refine To.thenN ?_
          refine To.condP rfl (fun c59 => ?_) (fun c59 => ?_)
          ·
            refine To.reg ?_
            refine To.rd rfl rfl rfl (Rd.field rfl rfl fl30_7) ?_
            refine To.rd rfl rfl rfl (Rd.load (i := 1) rfl rfl c28 rfl (box_gives1 rfl)) ?_
            refine To.rd rfl rfl rfl (Rd.move rfl rfl) ?_
            refine To.mk rfl rfl rfl (Mk.sliceN (us := [.int .i64 y]) rfl s28 rfl rfl rfl rfl rfl rfl) ?_
            rintro _ _ ⟨b63_5, rfl, rfl⟩
            refine To.as [row 2 1 (some ⟨b63_5, 0, none⟩) 1 1 [.int .i64 y], rows encI 2 1 A7 q7 O, box b3 [.int .i64 (o.tick % 12), .int .i64 (o.src - 248), .int .i64 (o.cm % 3), .int .i64 0, .int .i64 o.n, .int .i64 0, .int .i64 o.h, .slice A7 O.length q7] 30, box b2 [.int .i64 0, .int .i64 0, .int .i64 0, .int .i64 0, .int .i64 0, .int .i64 0, .int .i64 0, .slice none 0 0] 30, ros encI o.A o.args] rfl ?_
            refine To.ge rfl rfl rfl (Ge.append1 encI_ok (i := 1) (j := 0) (el := y) rfl s28 rfl rfl rfl rfl rfl (by first | omega | (simp only [List.length_append, List.length_cons, List.length_nil]; omega)) (by first | omega | (simp only [List.length_append, List.length_cons, List.length_nil]; omega))) ?_
            rintro _ _ ⟨A64_5, q64_5, rfl, rfl⟩
            refine To.as [row 2 1 (some ⟨b63_5, 0, none⟩) 1 1 [.int .i64 y], rows encI 2 1 A64_5 q64_5 (O ++ [y]), box b3 [.int .i64 (o.tick % 12), .int .i64 (o.src - 248), .int .i64 (o.cm % 3), .int .i64 0, .int .i64 o.n, .int .i64 0, .int .i64 o.h, .slice A7 O.length q7] 30, box b2 [.int .i64 0, .int .i64 0, .int .i64 0, .int .i64 0, .int .i64 0, .int .i64 0, .int .i64 0, .slice none 0 0] 30, ros encI o.A o.args] rfl ?_
            refine To.rd rfl rfl rfl (Rd.field rfl rfl fl30_7) ?_
            refine To.up rfl rfl (Up.store (i := 2) rfl rfl rfl c28 rfl rfl (box_takes1 rfl)) ?_
            refine To.nil ?_
            refine To.blockN ?_
            refine To.thenN ?_
            refine To.reg ?_
            refine To.rd rfl rfl rfl (Rd.inc rfl rfl rfl (by omega)) ?_
            refine To.rd rfl rfl rfl (Rd.move rfl rfl) ?_
            refine To.nil ?_
            refine To.thenN ?_
            refine To.sub [(2, .pointer (some ⟨b2, 0, none⟩)), (3, .pointer (some ⟨b3, 0, none⟩)), (51, .slice o.A o.args.length o.cap), (52, .int .i64 ((o.args.length : Nat) : Int)), (53, .int .i64 (((j + 1) : Nat) : Int))] ⟨rfl, rfl, rfl, rfl, rfl, trivial⟩ ?_
            refine To.only [1, 1, 1, 1] rfl ?_
            refine To.again (o.args.length - (j + 1)) (by omega) ⟨j + 1, O ++ [y], A64_5, q64_5, rfl, rfl, rfl, (by omega), (made_yes hy (by omega) hO)⟩
          ·
            refine To.skip ?_
            refine To.blockN ?_
            refine To.thenN ?_
            refine To.reg ?_
            refine To.rd rfl rfl rfl (Rd.inc rfl rfl rfl (by omega)) ?_
            refine To.rd rfl rfl rfl (Rd.move rfl rfl) ?_
            refine To.nil ?_
            refine To.thenN ?_
            refine To.sub [(2, .pointer (some ⟨b2, 0, none⟩)), (3, .pointer (some ⟨b3, 0, none⟩)), (51, .slice o.A o.args.length o.cap), (52, .int .i64 ((o.args.length : Nat) : Int)), (53, .int .i64 (((j + 1) : Nat) : Int))] ⟨rfl, rfl, rfl, rfl, rfl, trivial⟩ ?_
            refine To.only [0, 0, 0, 0] rfl ?_
            refine To.again (o.args.length - (j + 1)) (by omega) ⟨j + 1, O, A7, q7, rfl, rfl, rfl, (by omega), (made_no hy (by omega) hO)⟩
        ·
          refine To.exit ?_
          refine To.thenX ?_
          refine To.thenX ?_
          refine To.blockX ?_
          refine To.thenN ?_
          refine To.seq ?_
          refine To.reg ?_
          refine To.rd rfl rfl rfl (Rd.loadS (i := 1) rfl rfl r30 rfl box_whole rfl) ?_
          refine To.up rfl rfl (Up.storeS (i := 2) rfl rfl rfl r30 rfl rfl rfl (box_takesAll rfl)) ?_
          refine To.nil ?_
          refine To.thenN ?_
          refine To.ret ?_
          refine To.endC [0] rfl (.inl rfl) Try.results31 rfl (i := 2) rfl r30 rfl ?_
          obtain rfl : j = o.args.length := by omega
          rw [List.take_length] at hO
          subst hO
          refine ⟨A7, q7, ?_, rfl⟩
          unfold Opr.en En.rcells mS mO
          first | (exfalso; omega) | (repeat (first | rw [if_pos (by omega)] | rw [if_neg (by omega)]))
      ·
        refine To.skip ?_
        refine To.thenN ?_
        refine To.seq ?_
        refine To.seq ?_
        refine To.nilRow encI 2 1 ?_
        refine To.reg ?_
        refine To.rd rfl rfl rfl (Rd.field rfl rfl fl56_8) ?_
        refine To.rd rfl rfl rfl (Rd.load (i := 3) rfl rfl c28 rfl (box_gives1 rfl)) ?_
        refine To.rd rfl rfl rfl (Rd.len rfl rfl Try.underlying28) ?_
        refine To.rd rfl rfl rfl (Rd.move rfl rfl) ?_
        refine To.nil ?_
        refine To.thenN ?_
        refine To.block ?_
        refine To.sub [(2, .pointer (some ⟨b2, 0, none⟩)), (3, .pointer (some ⟨b3, 0, none⟩)), (51, .slice o.A o.args.length o.cap), (52, .int .i64 ((o.args.length : Nat) : Int)), (53, .int .i64 ((0 : Nat) : Int))] ⟨rfl, rfl, rfl, rfl, rfl, trivial⟩ ?_
        refine To.only [0, 0, 0, 1] rfl ?_
        refine To.as [rows encI 2 1 none 0 ([] : List Int), box b3 [.int .i64 (o.tick % 12), .int .i64 (4 + (o.src % 3)), .int .i64 (o.cm % 3), .int .i64 0, .int .i64 o.n, .int .i64 0, .int .i64 o.h, .slice none ([] : List Int).length 0] 30, box b2 [.int .i64 0, .int .i64 0, .int .i64 0, .int .i64 0, .int .i64 0, .int .i64 0, .int .i64 0, .slice none 0 0] 30, ros encI o.A o.args] rfl ?_
        refine To.loop (fun m ρ Γ => ∃ (j : Nat) (O : List Int) (A7 : Option Addr) (q7 : Nat), ρ = [(2, .pointer (some ⟨b2, 0, none⟩)), (3, .pointer (some ⟨b3, 0, none⟩)), (51, .slice o.A o.args.length o.cap), (52, .int .i64 ((o.args.length : Nat) : Int)), (53, .int .i64 ((j : Nat) : Int))] ∧ Γ = [rows encI 2 1 A7 q7 O, box b3 [.int .i64 (o.tick % 12), .int .i64 (4 + (o.src % 3)), .int .i64 (o.cm % 3), .int .i64 0, .int .i64 o.n, .int .i64 0, .int .i64 o.h, .slice A7 O.length q7] 30, box b2 [.int .i64 0, .int .i64 0, .int .i64 0, .int .i64 0, .int .i64 0, .int .i64 0, .int .i64 0, .slice none 0 0] 30, ros encI o.A o.args] ∧ m = o.args.length - j ∧ (j ≤ o.args.length) ∧ (O = (o.args.take j).take 4)) (o.args.length - 0) ⟨0, ([] : List Int), none, 0, rfl, rfl, rfl, (Nat.zero_le _), (by simp)⟩ ?_
        rintro m _ _ ⟨j, O, A7, q7, rfl, rfl, rfl, hj, hO⟩
        have hOl : O.length ≤ 4 := by rw [hO]; exact List.length_take_le _ _
        refine To.seq ?_
        refine To.reg ?_
        refine To.rd rfl rfl rfl (Rd.lss rfl rfl rfl) ?_
        refine To.nil ?_
        refine To.thenN ?_
        refine To.seq ?_
        refine To.condP rfl (fun c54 => ?_) (fun c54 => ?_)
        ·
          obtain ⟨y, hy⟩ : ∃ y, o.args[j]? = some y := ⟨o.args[j]'(by omega), List.getElem?_eq_getElem _⟩
          refine To.skip ?_
          refine To.thenN ?_
          refine To.seq ?_
          refine To.block ?_
          refine To.seq ?_
          refine To.reg ?_
          refine To.rd rfl rfl rfl (Rd.move rfl rfl) ?_
          refine To.rd rfl rfl rfl (Rd.indexRos encI_ok (i := 3) (j := j) rfl rfl rfl s28 rfl hy) ?_
          refine To.rd rfl rfl rfl (Rd.load (i := 3) rfl rfl c2 rfl (gives_1 (ros_gives encI_ok hy) rfl)) ?_
          refine To.rd rfl rfl rfl (Rd.assign rfl rfl) ?_
          refine To.rd rfl rfl rfl (Rd.assign rfl rfl) ?_
          refine To.nil ?_
          refine To.thenN ?_
          refine To.seq ?_
          refine To.reg ?_
          refine To.rd rfl rfl rfl (Rd.move rfl rfl) ?_
          refine To.rd rfl rfl rfl (Rd.lss rfl rfl rfl) ?_
          refine To.nil ?_
          refine To.thenN ?_
          refine To.condP rfl (fun c59 => ?_) (fun c59 => ?_)
          ·
            refine To.reg ?_
            refine To.rd rfl rfl rfl (Rd.field rfl rfl fl30_7) ?_
            refine To.rd rfl rfl rfl (Rd.load (i := 1) rfl rfl c28 rfl (box_gives1 rfl)) ?_
            refine To.rd rfl rfl rfl (Rd.move rfl rfl) ?_
            refine To.mk rfl rfl rfl (Mk.sliceN (us := [.int .i64 y]) rfl s28 rfl rfl rfl rfl rfl rfl) ?_
            rintro _ _ ⟨b63_6, rfl, rfl⟩
            refine To.as [row 2 1 (some ⟨b63_6, 0, none⟩) 1 1 [.int .i64 y], rows encI 2 1 A7 q7 O, box b3 [.int .i64 (o.tick % 12), .int .i64 (4 + (o.src % 3)), .int .i64 (o.cm % 3), .int .i64 0, .int .i64 o.n, .int .i64 0, .int .i64 o.h, .slice A7 O.length q7] 30, box b2 [.int .i64 0, .int .i64 0, .int .i64 0, .int .i64 0, .int .i64 0, .int .i64 0, .int .i64 0, .slice none 0 0] 30, ros encI o.A o.args] rfl ?_
            refine To.ge rfl rfl rfl (Ge.append1 encI_ok (i := 1) (j := 0) (el := y) rfl s28 rfl rfl rfl rfl rfl (by first | omega | (simp only [List.length_append, List.length_cons, List.length_nil]; omega)) (by first | omega | (simp only [List.length_append, List.length_cons, List.length_nil]; omega))) ?_
            rintro _ _ ⟨A64_6, q64_6, rfl, rfl⟩
            refine To.as [row 2 1 (some ⟨b63_6, 0, none⟩) 1 1 [.int .i64 y], rows encI 2 1 A64_6 q64_6 (O ++ [y]), box b3 [.int .i64 (o.tick % 12), .int .i64 (4 + (o.src % 3)), .int .i64 (o.cm % 3), .int .i64 0, .int .i64 o.n, .int .i64 0, .int .i64 o.h, .slice A7 O.length q7] 30, box b2 [.int .i64 0, .int .i64 0, .int .i64 0, .int .i64 0, .int .i64 0, .int .i64 0, .int .i64 0, .slice none 0 0] 30, ros encI o.A o.args] rfl ?_
            refine To.rd rfl rfl rfl (Rd.field rfl rfl fl30_7) ?_
            refine To.up rfl rfl (Up.store (i := 2) rfl rfl rfl c28 rfl rfl (box_takes1 rfl)) ?_
            refine To.nil ?_
            refine To.blockN ?_
            refine To.thenN ?_
            refine To.reg ?_
            refine To.rd rfl rfl rfl (Rd.inc rfl rfl rfl (by omega)) ?_
            refine To.rd rfl rfl rfl (Rd.move rfl rfl) ?_
            refine To.nil ?_
            refine To.thenN ?_
            refine To.sub [(2, .pointer (some ⟨b2, 0, none⟩)), (3, .pointer (some ⟨b3, 0, none⟩)), (51, .slice o.A o.args.length o.cap), (52, .int .i64 ((o.args.length : Nat) : Int)), (53, .int .i64 (((j + 1) : Nat) : Int))] ⟨rfl, rfl, rfl, rfl, rfl, trivial⟩ ?_
            refine To.only [1, 1, 1, 1] rfl ?_
            refine To.again (o.args.length - (j + 1)) (by omega) ⟨j + 1, O ++ [y], A64_6, q64_6, rfl, rfl, rfl, (by omega), (made_yes hy (by omega) hO)⟩
          ·
            refine To.skip ?_
            refine To.blockN ?_
            refine To.thenN ?_
            refine To.reg ?_
            refine To.rd rfl rfl rfl (Rd.inc rfl rfl rfl (by omega)) ?_
            refine To.rd rfl rfl rfl (Rd.move rfl rfl) ?_
            refine To.nil ?_
            refine To.thenN ?_
            refine To.sub [(2, .pointer (some ⟨b2, 0, none⟩)), (3, .pointer (some ⟨b3, 0, none⟩)), (51, .slice o.A o.args.length o.cap), (52, .int .i64 ((o.args.length : Nat) : Int)), (53, .int .i64 (((j + 1) : Nat) : Int))] ⟨rfl, rfl, rfl, rfl, rfl, trivial⟩ ?_
            refine To.only [0, 0, 0, 0] rfl ?_
            refine To.again (o.args.length - (j + 1)) (by omega) ⟨j + 1, O, A7, q7, rfl, rfl, rfl, (by omega), (made_no hy (by omega) hO)⟩
        ·
          refine To.exit ?_
          refine To.thenX ?_
          refine To.thenX ?_
          refine To.blockX ?_
          refine To.thenN ?_
          refine To.seq ?_
          refine To.reg ?_
          refine To.rd rfl rfl rfl (Rd.loadS (i := 1) rfl rfl r30 rfl box_whole rfl) ?_
          refine To.up rfl rfl (Up.storeS (i := 2) rfl rfl rfl r30 rfl rfl rfl (box_takesAll rfl)) ?_
          refine To.nil ?_
          refine To.thenN ?_
          refine To.ret ?_
          refine To.endC [0] rfl (.inl rfl) Try.results31 rfl (i := 2) rfl r30 rfl ?_
          obtain rfl : j = o.args.length := by omega
          rw [List.take_length] at hO
          subst hO
          refine ⟨A7, q7, ?_, rfl⟩
          unfold Opr.en En.rcells mS mO
          first | (exfalso; omega) | (repeat (first | rw [if_pos (by omega)] | rw [if_neg (by omega)]))
end Go.Proofs.Ytnamppkicefbjaa

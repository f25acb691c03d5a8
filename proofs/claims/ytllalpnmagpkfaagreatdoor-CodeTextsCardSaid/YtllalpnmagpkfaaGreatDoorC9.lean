/- A raw unit, and a unit as the program has it. Own text (walks printed by sx.py). -/
import Derived.Test.YtllalpnmagpkfaaGreatDoorC8
set_option linter.unusedVariables false
set_option linter.unusedSimpArgs false
set_option maxHeartbeats 2000000
set_option maxRecDepth 100000
namespace Go.Proofs.YtllalpnmagpkfaaGreatDoor
open Go.RowKit Go.Flow Go.Mem Go.Sep
structure Sp where
 t : Nat
 f : Nat
 v : Int
def Sp.cells (e : Sp) : List Value := [.int .u8 ((e.t : Nat) : Int), .int .u8 ((e.f : Nat) : Int), .int .i32 e.v]
theorem encSp : Enc Sp.cells 3 := ⟨fun _ => rfl, fun e u hu => by
 simp only [Sp.cells, List.mem_cons, List.not_mem_nil, or_false] at hu
 rcases hu with rfl | rfl | rfl <;> rfl⟩
theorem Rd.remI {P : Program} {o : Oper} {ρ : Slots} {Γ : List Chunk} {x y : Operand} {t t' : TypeId} {m n : Int} (ho : o.op = .binOp .rem t x y t') (hx : ev ρ x = some (.int .i32 m)) (hy : ev ρ y = some (.int .i32 n)) (h : n ≠ 0) : Rd P o ρ Γ (.int .i32 (m.tmod n)) := Rd.bin ho hx hy fun w => by simp [eqGuard, binOp, Op.intDiv, h]
def Rg (y : Ins) : Prop := (-2147483648 ≤ y.a ∧ y.a ≤ 2147483647) ∧ (-2147483648 ≤ y.b ∧ y.b ≤ 2147483647) ∧ (-2147483648 ≤ y.n ∧ y.n ≤ 2147483647)
theorem tmod6 (z : Int) : -6 < z.tmod 6 ∧ z.tmod 6 < 6 := ⟨Int.lt_tmod_of_pos z (by decide), Int.tmod_lt_of_pos z (by decide)⟩
theorem unit_fn (p s : Nat) (A : Option Addr) (q : Nat) (l : List Sp) (hp : p < 256) (hs : s < 256) (hl : ∀ e ∈ l, (e.t < 256 ∧ e.f < 256) ∧ -2147483648 ≤ e.v ∧ e.v ≤ 2147483647) :
    Does Tryz.prog 19 [.agg #[.int .u8 ((p : Nat) : Int), .int .u8 ((s : Nat) : Int), .slice A l.length q]] [ros Sp.cells A l] (fun v Γ' => ∃ (l' : List Ins) (B : Option Addr) (q' : Nat), v = .agg #[nv (p % 6), nv (s % 8), .slice B l'.length q'] ∧ Γ' = [rows Ins.rc 54 4 B q' l'] ∧ l'.length ≤ 30 ∧ ∀ y ∈ l', y.op < 256 ∧ Rg y) := by
 refine Does.enter Tryz.func19 rfl Tryz.ntmps19 rfl (fun w0 => ?_)
 refine To.s (To.g ?_)
 refine To.boxed rfl rfl rfl rfl rfl rfl (fun b1 => ?_)
 refine To.alloc rfl rfl rfl rfl z37 (fun b2 => ?_)
 refine To.n (To.t (To.s (To.g ?_)))
 refine To.f fl50_0 ?_
 refine To.lo 1 c5 ?_
 refine To.r (Rd.remN (a := p) (b := 6) rfl rfl rfl (by omega)) ?_
 refine To.r (Rd.conv rfl rfl Tryz.underlying5 Tryz.underlying3 (IntWalk.i64_in _ (by omega))) ?_
 refine To.f fl50_1 ?_
 refine To.lo 1 c5 ?_
 refine To.r (Rd.remN (a := s) (b := 8) rfl rfl rfl (by omega)) ?_
 refine To.r (Rd.conv rfl rfl Tryz.underlying5 Tryz.underlying3 (IntWalk.i64_in _ (by omega))) ?_
 refine To.r (Rd.build (vs := [(0, nv (p % 6)), (1, nv (s % 8))]) (cells := [nv (p % 6), nv (s % 8), .slice none 0 0]) rfl rfl rfl (by kernel_rfl)) ?_
 refine To.alloc rfl rfl rfl rfl z37 (fun b3 => ?_)
 refine To.u (Up.storeS (i := 0) rfl rfl rfl r37 rfl rfl rfl (bta rfl)) ?_
 refine To.n (To.t (To.s (To.s (To.g ?_))))
 refine To.f fl50_2 ?_
 refine To.lo 2 c48 ?_
 refine To.r (Rd.len rfl rfl Tryz.underlying48) ?_
 refine To.m (To.n (To.t (To.b ?_)))
 refine To.nilRow (Ins.rc) 54 4 ?_
 refine To.sub [(1, pv b1), (2, pv b2), (3, pv b3), (18, .slice A l.length q), (19, nv l.length), (20, nv 0)] ⟨rfl, rfl, rfl, rfl, rfl, rfl, trivial⟩ ?_
 refine To.only [3, 2, 1, 1, 0] rfl ?_
 refine To.loop (fun mz ρ Γ => ∃ (Ao : Option Addr) (qo : Nat) (O : List Ins) (i : Nat), ρ = [(1, pv b1), (2, pv b2), (3, pv b3), (18, .slice A l.length q), (19, nv l.length), (20, nv i)] ∧ Γ = [box b1 [.int .u8 ((p : Nat) : Int), .int .u8 ((s : Nat) : Int), .slice A l.length q] 50, box b2 [.int .i64 0, .int .i64 0, .slice none 0 0] 37, box b3 [nv (p % 6), nv (s % 8), .slice Ao O.length qo] 37, ros Sp.cells A l, rows Ins.rc 54 4 Ao qo O] ∧ mz = l.length - i ∧ (i ≤ l.length) ∧ (i ≤ 30) ∧ (O.length ≤ i) ∧ (∀ y ∈ O, y.op < 256 ∧ Rg y)) (l.length - 0) ⟨none, 0, ([] : List Ins), 0, rfl, rfl, rfl, (Nat.zero_le _), (Nat.zero_le _), (Nat.le_refl _), (fun y hy => by cases hy)⟩ ?_
 rintro mz _ _ ⟨Ao, qo, O, i, rfl, rfl, rfl, hi, hi30, hOl, hO⟩
 refine To.s (To.g ?_)
 refine To.lt ?_
 refine To.n (To.t (To.s ?_))
 refine To.cp rfl (fun k21 => ?_) (fun k21 => ?_)
 obtain ⟨x, hx⟩ : ∃ z0, l[i]? = some z0 := ⟨l[i]'(by omega), gge _⟩
 have hxv := hl x (mog hx)
 refine To.sp (To.t (To.s (To.b (To.s (To.g (To.m ?_))))))
 refine To.r (Rd.ixo encSp (i := 3) (j := i) rfl rfl rfl s48 rfl hx) ?_
 refine To.r (Rd.lS (i := 3) rfl rfl r169 rfl (rsg encSp hx) (encSp.len _)) ?_
 refine To.alloc rfl rfl rfl rfl z169 (fun b5 => ?_)
 refine To.a ?_
 refine To.u (Up.storeS (i := 0) rfl rfl rfl r169 rfl rfl rfl (bta rfl)) ?_
 refine To.n (To.t (To.s (To.s (To.g (To.m ?_)))))
 refine To.eq ?_
 refine To.n (To.t ?_)
 refine To.cp rfl (fun k26 => ?_) (fun k26 => ?_)
 refine To.ex (To.tx ?_)
 refine To.blockY rfl ?_
 refine To.tx (To.tx (To.bx (To.t (To.s (To.g ?_)))))
 refine To.r (Rd.lS (i := 3) rfl rfl r37 rfl box_whole rfl) ?_
 refine To.u (Up.storeS (i := 2) rfl rfl rfl r37 rfl rfl rfl (bta rfl)) ?_
 refine To.n (To.t (To.rt ?_))
 refine To.endC [5] rfl (.inl rfl) Tryz.results19 rfl (i := 2) rfl r37 rfl ?_
 exact ⟨O, _, _, rfl, rfl, by omega, hO⟩
 refine To.sp (To.t (To.s (To.g ?_)))
 refine To.f fl169_1 ?_
 refine To.lo 0 c5 ?_
 refine To.r (Rd.remN (a := x.f) (b := 36) rfl rfl rfl (by omega)) ?_
 refine To.r (Rd.conv rfl rfl Tryz.underlying5 Tryz.underlying3 (IntWalk.i64_in _ (by omega))) ?_
 refine To.r (Rd.build (vs := [(0, nv (x.f % 36))]) (cells := [nv (x.f % 36), .int .i64 0, .int .i64 0, .int .i64 0]) rfl rfl rfl (by kernel_rfl)) ?_
 refine To.alloc rfl rfl rfl rfl z54 (fun b6 => ?_)
 refine To.u (Up.storeS (i := 0) rfl rfl rfl r54 rfl rfl rfl (bta rfl)) ?_
 refine To.n (To.t (To.s (To.g ?_)))
 refine To.f fl169_2 ?_
 refine To.lo 1 c21 ?_
 refine To.r (Rd.remI rfl rfl rfl (by decide)) ?_
 refine To.r (Rd.conv rfl rfl Tryz.underlying21 Tryz.underlying3 (IntWalk.i64_in _ (by have := tmod6 x.v; omega))) ?_
 refine To.a (To.n (To.t (To.s ?_)))
 refine To.meetC (T := (Int) × (Int) × (Int)) (fun t => ([(1, pv b1), (2, pv b2), (3, pv b3), (6, pv b6), (18, .slice A l.length q), (19, nv l.length), (20, nv i)], [box b1 [.int .u8 ((p : Nat) : Int), .int .u8 ((s : Nat) : Int), .slice A l.length q] 50, box b2 [.int .i64 0, .int .i64 0, .slice none 0 0] 37, box b3 [nv (p % 6), nv (s % 8), .slice Ao O.length qo] 37, ros Sp.cells A l, rows Ins.rc 54 4 Ao qo O, box b6 [nv (x.f % 36), .int .i64 (t.1), .int .i64 (t.2.1), .int .i64 (t.2.2)] 54])) (fun t => (-2147483648 ≤ (t.1) ∧ (t.1) ≤ 2147483647) ∧ (-2147483648 ≤ (t.2.1) ∧ (t.2.1) ≤ 2147483647) ∧ (-2147483648 ≤ (t.2.2) ∧ (t.2.2) ≤ 2147483647)) ?_ ?_
 refine To.b (To.s (To.g ?_))
 refine To.f fl54_0 ?_
 refine To.lo 0 c3 ?_
 refine To.eq ?_
 refine To.a (To.n (To.t ?_))
 refine To.cp rfl (fun k36 => ?_) (fun k36 => ?_)
 refine To.g ?_
 refine To.f fl169_2 ?_
 refine To.lo 1 c21 ?_
 refine To.r (Rd.conv rfl rfl Tryz.underlying21 Tryz.underlying2 (IntWalk.i64_in _ (by omega))) ?_
 refine To.f fl54_3 ?_
 refine To.u (Up.store (i := 0) rfl rfl rfl c2 rfl rfl (bt1 rfl)) ?_
 refine To.n (To.bn (To.t ?_))
 refine To.only [2, 2, 2, 2, 2, 0] rfl ?_
 refine To.he (0, 0, x.v) ⟨(by have := tmod6 x.v; dsimp only; omega), (by have := tmod6 x.v; dsimp only; omega), (by have := tmod6 x.v; dsimp only; omega)⟩ ⟨rfl, rfl, rfl, rfl, rfl, rfl, rfl, trivial⟩ rfl
 refine To.s (To.g ?_)
 refine To.f fl54_0 ?_
 refine To.lo 0 c3 ?_
 refine To.eq ?_
 refine To.rdP rfl rfl rfl (Rd.move rfl rfl) (fun g48 => ?_) (fun g48 => ?_)
 refine To.k ?_
 refine To.k ?_
 refine To.k ?_
 refine To.pT ?_
 refine To.a (To.n (To.t ?_))
 refine To.condT rfl ?_
 refine To.g ?_
 refine To.f fl169_0 ?_
 refine To.lo 1 c5 ?_
 refine To.r (Rd.conv rfl rfl Tryz.underlying5 Tryz.underlying3 (IntWalk.i64_in _ (by omega))) ?_
 refine To.r (Rd.remN (a := x.t) (b := 12) rfl rfl rfl (by omega)) ?_
 refine To.f fl54_1 ?_
 refine To.u (Up.store (i := 0) rfl rfl rfl c3 rfl rfl (bt1 rfl)) ?_
 refine To.n (To.bn (To.t ?_))
 refine To.only [2, 2, 2, 2, 2, 0] rfl ?_
 refine To.he (((x.t % 12 : Nat) : Int), 0, 0) ⟨(by have := tmod6 x.v; dsimp only; omega), (by have := tmod6 x.v; dsimp only; omega), (by have := tmod6 x.v; dsimp only; omega)⟩ ⟨rfl, rfl, rfl, rfl, rfl, rfl, rfl, trivial⟩ rfl
 refine To.f fl54_0 ?_
 refine To.lo 0 c3 ?_
 refine To.eq ?_
 refine To.pF ?_
 refine To.a (To.n (To.t ?_))
 refine To.cp rfl (fun k44 => ?_) (fun k44 => ?_)
 refine To.g ?_
 refine To.f fl169_0 ?_
 refine To.lo 1 c5 ?_
 refine To.r (Rd.conv rfl rfl Tryz.underlying5 Tryz.underlying3 (IntWalk.i64_in _ (by omega))) ?_
 refine To.r (Rd.remN (a := x.t) (b := 12) rfl rfl rfl (by omega)) ?_
 refine To.f fl54_1 ?_
 refine To.u (Up.store (i := 0) rfl rfl rfl c3 rfl rfl (bt1 rfl)) ?_
 refine To.n (To.bn (To.t ?_))
 refine To.only [2, 2, 2, 2, 2, 0] rfl ?_
 refine To.he (((x.t % 12 : Nat) : Int), 0, 0) ⟨(by have := tmod6 x.v; dsimp only; omega), (by have := tmod6 x.v; dsimp only; omega), (by have := tmod6 x.v; dsimp only; omega)⟩ ⟨rfl, rfl, rfl, rfl, rfl, rfl, rfl, trivial⟩ rfl
 refine To.s (To.g ?_)
 refine To.f fl54_0 ?_
 refine To.lo 0 c3 ?_
 refine To.eq ?_
 refine To.a (To.n (To.t ?_))
 refine To.cp rfl (fun k58 => ?_) (fun k58 => ?_)
 refine To.flow [box b5 [.int .u8 ((x.t : Nat) : Int), .int .u8 ((x.f : Nat) : Int), .int .i32 x.v] 169] [⟨0, [], 0⟩, ⟨1, [], 0⟩, ⟨2, [], 0⟩, ⟨3, [], 0⟩, ⟨4, [], 0⟩, ⟨5, [], 0⟩, ⟨6, [], 0⟩, ⟨7, [], 5⟩, ⟨8, [], 0⟩, ⟨9, [], 5⟩, ⟨10, [], 0⟩, ⟨11, [], 5⟩] mixed (by kernel_rfl) (ocs (oca 1 rfl) (ocn _)) ?_
 refine W.mo ?_
 refine W.mo ?_
 refine W.fi fl169_0 ?_
 refine W.th 0 c5 ?_
 refine W.f rfl (Rd.remN (a := x.t) (b := 3) rfl rfl rfl (by omega)) ?_
 refine W.f rfl (Rd.conv rfl rfl Tryz.underlying5 Tryz.underlying2 (IntWalk.i64_in _ (by omega))) ?_
 refine W.fi fl54_1 ?_
 refine W.up rfl rfl rfl (Up.store (i := 0) rfl rfl rfl c3 rfl rfl (bt1 rfl)) (ocs (oca 1 rfl) (ocn _)) ?_
 refine W.fi fl54_2 ?_
 refine W.up rfl rfl rfl (Up.store (i := 0) rfl rfl rfl c3 rfl rfl (bt1 rfl)) (ocs (oca 1 rfl) (ocn _)) ?_
 refine W.fi fl54_3 ?_
 refine W.up rfl rfl rfl (Up.store (i := 0) rfl rfl rfl c2 rfl rfl (bt1 rfl)) (ocs (oca 1 rfl) (ocn _)) ?_
 refine W.fin ?_
 refine To.bn (To.t ?_)
 refine To.only [2, 2, 2, 2, 2, 0] rfl ?_
 refine To.he ((x.v.tmod 6), (x.v.tmod 6), ((x.t % 3 : Nat) : Int)) ⟨(by have := tmod6 x.v; dsimp only; omega), (by have := tmod6 x.v; dsimp only; omega), (by have := tmod6 x.v; dsimp only; omega)⟩ ⟨rfl, rfl, rfl, rfl, rfl, rfl, rfl, trivial⟩ rfl
 refine To.s (To.g ?_)
 refine To.f fl54_0 ?_
 refine To.lo 0 c3 ?_
 refine To.eq ?_
 refine To.a (To.n (To.t ?_))
 refine To.cp rfl (fun k71 => ?_) (fun k71 => ?_)
 refine To.flow [box b5 [.int .u8 ((x.t : Nat) : Int), .int .u8 ((x.f : Nat) : Int), .int .i32 x.v] 169] [⟨0, [], 0⟩, ⟨1, [], 0⟩, ⟨2, [], 0⟩, ⟨3, [], 0⟩, ⟨4, [], 0⟩, ⟨5, [], 0⟩, ⟨6, [], 5⟩, ⟨7, [], 0⟩, ⟨8, [], 5⟩] mixed (by kernel_rfl) (ocs (oca 1 rfl) (ocn _)) ?_
 refine W.mo ?_
 refine W.fi fl169_0 ?_
 refine W.th 0 c5 ?_
 refine W.f rfl (Rd.remN (a := x.t) (b := 3) rfl rfl rfl (by omega)) ?_
 refine W.f rfl (Rd.conv rfl rfl Tryz.underlying5 Tryz.underlying2 (IntWalk.i64_in _ (by omega))) ?_
 refine W.fi fl54_2 ?_
 refine W.up rfl rfl rfl (Up.store (i := 0) rfl rfl rfl c3 rfl rfl (bt1 rfl)) (ocs (oca 1 rfl) (ocn _)) ?_
 refine W.fi fl54_3 ?_
 refine W.up rfl rfl rfl (Up.store (i := 0) rfl rfl rfl c2 rfl rfl (bt1 rfl)) (ocs (oca 1 rfl) (ocn _)) ?_
 refine W.fin ?_
 refine To.bn (To.t ?_)
 refine To.only [2, 2, 2, 2, 2, 0] rfl ?_
 refine To.he (0, (x.v.tmod 6), ((x.t % 3 : Nat) : Int)) ⟨(by have := tmod6 x.v; dsimp only; omega), (by have := tmod6 x.v; dsimp only; omega), (by have := tmod6 x.v; dsimp only; omega)⟩ ⟨rfl, rfl, rfl, rfl, rfl, rfl, rfl, trivial⟩ rfl
 refine To.s (To.g ?_)
 refine To.f fl54_0 ?_
 refine To.lo 0 c3 ?_
 refine To.eq ?_
 refine To.a (To.n (To.t ?_))
 refine To.cp rfl (fun k82 => ?_) (fun k82 => ?_)
 refine To.g ?_
 refine To.f fl169_0 ?_
 refine To.lo 1 c5 ?_
 refine To.r (Rd.conv rfl rfl Tryz.underlying5 Tryz.underlying3 (IntWalk.i64_in _ (by omega))) ?_
 refine To.r (Rd.remN (a := x.t) (b := 12) rfl rfl rfl (by omega)) ?_
 refine To.f fl54_2 ?_
 refine To.u (Up.store (i := 0) rfl rfl rfl c3 rfl rfl (bt1 rfl)) ?_
 refine To.n (To.bn (To.t ?_))
 refine To.only [2, 2, 2, 2, 2, 0] rfl ?_
 refine To.he (0, ((x.t % 12 : Nat) : Int), 0) ⟨(by have := tmod6 x.v; dsimp only; omega), (by have := tmod6 x.v; dsimp only; omega), (by have := tmod6 x.v; dsimp only; omega)⟩ ⟨rfl, rfl, rfl, rfl, rfl, rfl, rfl, trivial⟩ rfl
 refine To.s (To.g ?_)
 refine To.f fl54_0 ?_
 refine To.lo 0 c3 ?_
 refine To.eq ?_
 refine To.a (To.n (To.t ?_))
 refine To.cp rfl (fun k91 => ?_) (fun k91 => ?_)
 refine To.flow [box b5 [.int .u8 ((x.t : Nat) : Int), .int .u8 ((x.f : Nat) : Int), .int .i32 x.v] 169] [⟨0, [], 0⟩, ⟨1, [], 0⟩, ⟨2, [], 0⟩, ⟨3, [], 0⟩, ⟨4, [], 0⟩, ⟨5, [], 0⟩, ⟨6, [], 5⟩, ⟨7, [], 0⟩, ⟨8, [], 5⟩] mixed (by kernel_rfl) (ocs (oca 1 rfl) (ocn _)) ?_
 refine W.mo ?_
 refine W.fi fl169_0 ?_
 refine W.th 0 c5 ?_
 refine W.f rfl (Rd.conv rfl rfl Tryz.underlying5 Tryz.underlying3 (IntWalk.i64_in _ (by omega))) ?_
 refine W.f rfl (Rd.remN (a := x.t) (b := 12) rfl rfl rfl (by omega)) ?_
 refine W.fi fl54_1 ?_
 refine W.up rfl rfl rfl (Up.store (i := 0) rfl rfl rfl c3 rfl rfl (bt1 rfl)) (ocs (oca 1 rfl) (ocn _)) ?_
 refine W.fi fl54_2 ?_
 refine W.up rfl rfl rfl (Up.store (i := 0) rfl rfl rfl c3 rfl rfl (bt1 rfl)) (ocs (oca 1 rfl) (ocn _)) ?_
 refine W.fin ?_
 refine To.bn (To.t ?_)
 refine To.only [2, 2, 2, 2, 2, 0] rfl ?_
 refine To.he ((x.v.tmod 6), ((x.t % 12 : Nat) : Int), 0) ⟨(by have := tmod6 x.v; dsimp only; omega), (by have := tmod6 x.v; dsimp only; omega), (by have := tmod6 x.v; dsimp only; omega)⟩ ⟨rfl, rfl, rfl, rfl, rfl, rfl, rfl, trivial⟩ rfl
 refine To.s (To.g ?_)
 refine To.meet (T := Bool) (fun t => ([(1, pv b1), (2, pv b2), (3, pv b3), (18, .slice A l.length q), (19, nv l.length), (20, nv i), (5, pv b5), (6, pv b6), (7, .int .i64 (x.v.tmod 6)), (102, .bool t)], [box b6 [nv (x.f % 36), .int .i64 0, .int .i64 0, .int .i64 0] 54, box b5 [.int .u8 ((x.t : Nat) : Int), .int .u8 ((x.f : Nat) : Int), .int .i32 x.v] 169, box b1 [.int .u8 ((p : Nat) : Int), .int .u8 ((s : Nat) : Int), .slice A l.length q] 50, box b2 [.int .i64 0, .int .i64 0, .slice none 0 0] 37, box b3 [nv (p % 6), nv (s % 8), .slice Ao O.length qo] 37, ros Sp.cells A l, rows Ins.rc 54 4 Ao qo O])) (fun t => True) ?_ (fun t ht => ?_)
 refine To.f fl54_0 ?_
 refine To.lo 0 c3 ?_
 refine To.eq ?_
 refine To.rdP rfl rfl rfl (Rd.move rfl rfl) (fun g106 => ?_) (fun g106 => ?_)
 refine To.k ?_
 refine To.k ?_
 refine To.k ?_
 refine To.pT ?_
 refine To.m ?_
 refine To.k ?_
 refine To.k ?_
 refine To.k ?_
 refine To.pT ?_
 refine To.m ?_
 refine To.k ?_
 refine To.k ?_
 refine To.k ?_
 refine To.k ?_
 refine To.k ?_
 refine To.k ?_
 refine To.k ?_
 refine To.k ?_
 refine To.pT ?_
 refine To.m ?_
 refine To.k ?_
 refine To.k ?_
 refine To.k ?_
 refine To.k ?_
 refine To.k ?_
 refine To.k ?_
 refine To.k ?_
 refine To.k ?_
 refine To.pT ?_
 refine To.a ?_
 refine To.n (To.t ?_)
 refine To.only [0, 0, 0, 0, 0, 0, 0] rfl ?_
 refine To.he true trivial ⟨rfl, rfl, rfl, rfl, rfl, rfl, rfl, rfl, rfl, rfl, trivial⟩ rfl
 refine To.f fl54_0 ?_
 refine To.lo 0 c3 ?_
 refine To.eq ?_
 refine To.pF ?_
 refine To.rdP rfl rfl rfl (Rd.move rfl rfl) (fun g111 => ?_) (fun g111 => ?_)
 refine To.k ?_
 refine To.k ?_
 refine To.k ?_
 refine To.pT ?_
 refine To.m ?_
 refine To.k ?_
 refine To.k ?_
 refine To.k ?_
 refine To.k ?_
 refine To.k ?_
 refine To.k ?_
 refine To.k ?_
 refine To.k ?_
 refine To.pT ?_
 refine To.m ?_
 refine To.k ?_
 refine To.k ?_
 refine To.k ?_
 refine To.k ?_
 refine To.k ?_
 refine To.k ?_
 refine To.k ?_
 refine To.k ?_
 refine To.pT ?_
 refine To.a ?_
 refine To.n (To.t ?_)
 refine To.only [0, 0, 0, 0, 0, 0, 0] rfl ?_
 refine To.he true trivial ⟨rfl, rfl, rfl, rfl, rfl, rfl, rfl, rfl, rfl, rfl, trivial⟩ rfl
 refine To.f fl54_0 ?_
 refine To.lo 0 c3 ?_
 refine To.eq ?_
 refine To.pF ?_
 refine To.rdP rfl rfl rfl (Rd.move rfl rfl) (fun g116 => ?_) (fun g116 => ?_)
 refine To.k ?_
 refine To.k ?_
 refine To.k ?_
 refine To.k ?_
 refine To.k ?_
 refine To.k ?_
 refine To.k ?_
 refine To.k ?_
 refine To.pT ?_
 refine To.m ?_
 refine To.k ?_
 refine To.k ?_
 refine To.k ?_
 refine To.k ?_
 refine To.k ?_
 refine To.k ?_
 refine To.k ?_
 refine To.k ?_
 refine To.pT ?_
 refine To.a ?_
 refine To.n (To.t ?_)
 refine To.only [0, 0, 0, 0, 0, 0, 0] rfl ?_
 refine To.he true trivial ⟨rfl, rfl, rfl, rfl, rfl, rfl, rfl, rfl, rfl, rfl, trivial⟩ rfl
 refine To.f fl54_0 ?_
 refine To.lo 0 c3 ?_
 refine To.gq ?_
 refine To.rdP rfl rfl rfl (Rd.move rfl rfl) (fun g120 => ?_) (fun g120 => ?_)
 refine To.f fl54_0 ?_
 refine To.lo 0 c3 ?_
 refine To.le ?_
 refine To.pT ?_
 refine To.pF ?_
 refine To.rdP rfl rfl rfl (Rd.move rfl rfl) (fun g126 => ?_) (fun g126 => ?_)
 refine To.k ?_
 refine To.k ?_
 refine To.k ?_
 refine To.k ?_
 refine To.k ?_
 refine To.k ?_
 refine To.k ?_
 refine To.k ?_
 refine To.pT ?_
 refine To.a ?_
 refine To.n (To.t ?_)
 refine To.only [0, 0, 0, 0, 0, 0, 0] rfl ?_
 refine To.he true trivial ⟨rfl, rfl, rfl, rfl, rfl, rfl, rfl, rfl, rfl, rfl, trivial⟩ rfl
 refine To.f fl54_0 ?_
 refine To.lo 0 c3 ?_
 refine To.gq ?_
 refine To.rdP rfl rfl rfl (Rd.move rfl rfl) (fun g130 => ?_) (fun g130 => ?_)
 refine To.f fl54_0 ?_
 refine To.lo 0 c3 ?_
 refine To.le ?_
 refine To.pT ?_
 refine To.pF ?_
 refine To.a ?_
 refine To.n (To.t ?_)
 refine To.only [0, 0, 0, 0, 0, 0, 0] rfl ?_
 refine To.he (decide (((x.f % 36 : Nat) : Int) ≤ 26)) trivial ⟨rfl, rfl, rfl, rfl, rfl, rfl, rfl, rfl, rfl, rfl, trivial⟩ rfl
 refine To.k ?_
 refine To.k ?_
 refine To.k ?_
 refine To.pF ?_
 refine To.pF ?_
 refine To.a ?_
 refine To.n (To.t ?_)
 refine To.only [0, 0, 0, 0, 0, 0, 0] rfl ?_
 refine To.he false trivial ⟨rfl, rfl, rfl, rfl, rfl, rfl, rfl, rfl, rfl, rfl, trivial⟩ rfl
 refine To.k ?_
 refine To.k ?_
 refine To.k ?_
 refine To.pF ?_
 refine To.pF ?_
 refine To.m ?_
 refine To.f fl54_0 ?_
 refine To.lo 0 c3 ?_
 refine To.gq ?_
 refine To.rdP rfl rfl rfl (Rd.move rfl rfl) (fun g130 => ?_) (fun g130 => ?_)
 refine To.f fl54_0 ?_
 refine To.lo 0 c3 ?_
 refine To.le ?_
 refine To.pT ?_
 refine To.pF ?_
 refine To.a ?_
 refine To.n (To.t ?_)
 refine To.only [0, 0, 0, 0, 0, 0, 0] rfl ?_
 refine To.he (decide (((x.f % 36 : Nat) : Int) ≤ 26)) trivial ⟨rfl, rfl, rfl, rfl, rfl, rfl, rfl, rfl, rfl, rfl, trivial⟩ rfl
 refine To.k ?_
 refine To.k ?_
 refine To.k ?_
 refine To.pF ?_
 refine To.pF ?_
 refine To.a ?_
 refine To.n (To.t ?_)
 refine To.only [0, 0, 0, 0, 0, 0, 0] rfl ?_
 refine To.he false trivial ⟨rfl, rfl, rfl, rfl, rfl, rfl, rfl, rfl, rfl, rfl, trivial⟩ rfl
 show To _ [(1, pv b1), (2, pv b2), (3, pv b3), (18, .slice A l.length q), (19, nv l.length), (20, nv i), (5, pv b5), (6, pv b6), (7, .int .i64 (x.v.tmod 6)), (102, .bool t)] [box b6 [nv (x.f % 36), .int .i64 0, .int .i64 0, .int .i64 0] 54, box b5 [.int .u8 ((x.t : Nat) : Int), .int .u8 ((x.f : Nat) : Int), .int .i32 x.v] 169, box b1 [.int .u8 ((p : Nat) : Int), .int .u8 ((s : Nat) : Int), .slice A l.length q] 50, box b2 [.int .i64 0, .int .i64 0, .slice none 0 0] 37, box b3 [nv (p % 6), nv (s % 8), .slice Ao O.length qo] 37, ros Sp.cells A l, rows Ins.rc 54 4 Ao qo O] _
 refine To.cond rfl (fun k102 => ?_) (fun k102 => ?_)
 refine To.g (To.m ?_)
 refine To.f fl54_1 ?_
 refine To.u (Up.store (i := 0) rfl rfl rfl c3 rfl rfl (bt1 rfl)) ?_
 refine To.n (To.bn (To.t ?_))
 refine To.only [2, 2, 2, 2, 2, 0] rfl ?_
 refine To.he ((x.v.tmod 6), 0, 0) ⟨(by have := tmod6 x.v; dsimp only; omega), (by have := tmod6 x.v; dsimp only; omega), (by have := tmod6 x.v; dsimp only; omega)⟩ ⟨rfl, rfl, rfl, rfl, rfl, rfl, rfl, trivial⟩ rfl
 refine To.sp (To.bn (To.t ?_))
 refine To.only [2, 2, 2, 2, 2, 0] rfl ?_
 refine To.he (0, 0, 0) ⟨(by have := tmod6 x.v; dsimp only; omega), (by have := tmod6 x.v; dsimp only; omega), (by have := tmod6 x.v; dsimp only; omega)⟩ ⟨rfl, rfl, rfl, rfl, rfl, rfl, rfl, trivial⟩ rfl
 rintro ⟨za, zb, zn⟩ ⟨hza, hzb, hzn⟩
 replace hza : -2147483648 ≤ za ∧ za ≤ 2147483647 := hza
 replace hzb : -2147483648 ≤ zb ∧ zb ≤ 2147483647 := hzb
 replace hzn : -2147483648 ≤ zn ∧ zn ≤ 2147483647 := hzn
 show To _ [(1, pv b1), (2, pv b2), (3, pv b3), (6, pv b6), (18, .slice A l.length q), (19, nv l.length), (20, nv i)] [box b1 [.int .u8 ((p : Nat) : Int), .int .u8 ((s : Nat) : Int), .slice A l.length q] 50, box b2 [.int .i64 0, .int .i64 0, .slice none 0 0] 37, box b3 [nv (p % 6), nv (s % 8), .slice Ao O.length qo] 37, ros Sp.cells A l, rows Ins.rc 54 4 Ao qo O, box b6 [nv (x.f % 36), .int .i64 za, .int .i64 zb, .int .i64 zn] 54] _
 refine To.g ?_
 refine To.f fl37_2 ?_
 refine To.lo 2 c35 ?_
 refine To.r (Rd.lS (i := 5) rfl rfl r54 rfl box_whole rfl) ?_
 refine To.mk rfl rfl rfl (Mk.sN (us := [nv (x.f % 36), .int .i64 za, .int .i64 zb, .int .i64 zn]) rfl s35 rfl rfl rfl rfl rfl rfl) ?_
 rintro _ _ ⟨b141, rfl, rfl⟩
 refine To.ge rfl rfl rfl (Ge.append1 encRi (i := 5) (j := 0) (el := (⟨x.f % 36, za, zb, zn⟩ : Ins)) rfl s35 rfl rfl rfl rfl rfl (by first | omega | (simp; done) | (simp; omega)) (by first | omega | (simp; done) | (simp; omega))) ?_
 rintro _ _ ⟨A142, q142, rfl, rfl⟩
 refine To.f fl37_2 ?_
 refine To.u (Up.store (i := 3) rfl rfl rfl c35 rfl rfl (bt1 rfl)) ?_
 refine To.n (To.bn (To.t (To.g ?_)))
 refine To.r (Rd.inc rfl rfl rfl (by omega)) ?_
 refine To.m (To.n (To.t ?_))
 refine To.sub [(1, pv b1), (2, pv b2), (3, pv b3), (18, .slice A l.length q), (19, nv l.length), (20, nv ((i + 1)))] ⟨rfl, rfl, rfl, rfl, rfl, rfl, trivial⟩ ?_
 refine To.only [1, 1, 1, 1, 1] rfl ?_
 refine To.ag (l.length - (i + 1)) (by omega) ⟨A142, q142, (O ++ [(⟨x.f % 36, za, zb, zn⟩ : Ins)]), i + 1, rfl, rfl, rfl, (by omega), (by omega), (by rw [lap]; simp only [lc1, ln0]; omega), (fun y hy => by
  rcases List.mem_append.1 hy with h0 | h0
  · exact hO y h0
  · rw [List.mem_singleton.1 h0]; unfold Rg; dsimp only; omega)⟩
 refine To.ex (To.tx (To.tx (To.bx (To.t (To.s (To.g ?_))))))
 refine To.r (Rd.lS (i := 2) rfl rfl r37 rfl box_whole rfl) ?_
 refine To.u (Up.storeS (i := 1) rfl rfl rfl r37 rfl rfl rfl (bta rfl)) ?_
 refine To.n (To.t (To.rt ?_))
 refine To.endC [4] rfl (.inl rfl) Tryz.results19 rfl (i := 1) rfl r37 rfl ?_
 exact ⟨O, _, _, rfl, rfl, by omega, hO⟩
theorem back_fn (pr st : Int) (A : Option Addr) (q : Nat) (l : List Ins) (hl : l.length ≤ 1000000) (hop : ∀ x ∈ l, x.op < 256) :
    Does Tryz.prog 17 [.agg #[.int .i64 pr, .int .i64 st, .slice A l.length q]] [ros Ins.rc A l] (fun v Γ' => ∃ (B : Option Addr) (q' : Nat), v = .agg #[.int .i64 pr, .int .i64 st, .slice B l.length q'] ∧ Γ' = [rows Ins.cells 109 4 B q' l]) := by
 refine Does.enter Tryz.func17 rfl Tryz.ntmps17 rfl (fun w0 => ?_)
 refine To.s (To.g ?_)
 refine To.boxed rfl rfl rfl rfl rfl rfl (fun b1 => ?_)
 refine To.alloc rfl rfl rfl rfl z42 (fun b2 => ?_)
 refine To.n (To.t (To.s (To.g ?_)))
 refine To.f fl37_0 ?_
 refine To.lo 1 c3 ?_
 refine To.f fl37_1 ?_
 refine To.lo 1 c3 ?_
 refine To.r (Rd.build (vs := [(0, .int .i64 pr), (1, .int .i64 st)]) (cells := [.int .i64 pr, .int .i64 st, .slice none 0 0]) rfl rfl rfl (by kernel_rfl)) ?_
 refine To.alloc rfl rfl rfl rfl z42 (fun b3 => ?_)
 refine To.u (Up.storeS (i := 0) rfl rfl rfl r42 rfl rfl rfl (bta rfl)) ?_
 refine To.n (To.t (To.s (To.s (To.g ?_))))
 refine To.f fl37_2 ?_
 refine To.lo 2 c35 ?_
 refine To.r (Rd.len rfl rfl Tryz.underlying35) ?_
 refine To.m (To.n (To.t (To.b ?_)))
 refine To.nilRow (Ins.cells) 109 4 ?_
 refine To.sub [(1, pv b1), (2, pv b2), (3, pv b3), (12, .slice A l.length q), (13, nv l.length), (14, nv 0)] ⟨rfl, rfl, rfl, rfl, rfl, rfl, trivial⟩ ?_
 refine To.only [3, 2, 1, 1, 0] rfl ?_
 refine To.loop (fun mz ρ Γ => ∃ (Ao : Option Addr) (qo : Nat) (O : List Ins) (i : Nat), ρ = [(1, pv b1), (2, pv b2), (3, pv b3), (12, .slice A l.length q), (13, nv l.length), (14, nv i)] ∧ Γ = [box b1 [.int .i64 pr, .int .i64 st, .slice A l.length q] 37, box b2 [.int .i64 0, .int .i64 0, .slice none 0 0] 42, box b3 [.int .i64 pr, .int .i64 st, .slice Ao O.length qo] 42, ros Ins.rc A l, rows Ins.cells 109 4 Ao qo O] ∧ mz = l.length - i ∧ (i ≤ l.length) ∧ (O = l.take i)) (l.length - 0) ⟨none, 0, ([] : List Ins), 0, rfl, rfl, rfl, (Nat.zero_le _), rfl⟩ ?_
 rintro mz _ _ ⟨Ao, qo, O, i, rfl, rfl, rfl, hi, hO⟩
 have hOl : O.length ≤ l.length := by rw [hO, List.length_take]; omega
 refine To.s (To.g ?_)
 refine To.lt ?_
 refine To.n (To.t (To.s ?_))
 refine To.cp rfl (fun k15 => ?_) (fun k15 => ?_)
 obtain ⟨x, hx⟩ : ∃ z0, l[i]? = some z0 := ⟨l[i]'(by omega), gge _⟩
 have hop2 := hop x (mog hx)
 refine To.sp (To.t (To.s (To.b (To.s (To.g ?_)))))
 refine To.r (Rd.ixo encRi (i := 3) (j := i) rfl rfl rfl s35 rfl hx) ?_
 refine To.r (Rd.lS (i := 3) rfl rfl r54 rfl (rsg encRi hx) (encRi.len _)) ?_
 refine To.alloc rfl rfl rfl rfl z54 (fun b5 => ?_)
 refine To.u (Up.storeS (i := 0) rfl rfl rfl r54 rfl rfl rfl (bta rfl)) ?_
 refine To.n (To.t (To.g ?_))
 refine To.f fl42_2 ?_
 refine To.lo 3 c40 ?_
 refine To.f fl54_0 ?_
 refine To.lo 0 c3 ?_
 refine To.r (Rd.conv rfl rfl Tryz.underlying3 Tryz.underlying107 (IntWalk.u8_in _ (by omega))) ?_
 refine To.f fl54_1 ?_
 refine To.lo 0 c3 ?_
 refine To.f fl54_2 ?_
 refine To.lo 0 c3 ?_
 refine To.f fl54_3 ?_
 refine To.lo 0 c2 ?_
 refine To.r (Rd.build (vs := [(0, .int .u8 ((x.op : Nat) : Int)), (1, .int .i64 x.a), (2, .int .i64 x.b), (3, .int .i64 x.n)]) (cells := [.int .u8 ((x.op : Nat) : Int), .int .i64 x.a, .int .i64 x.b, .int .i64 x.n]) rfl rfl rfl (by kernel_rfl)) ?_
 refine To.mk rfl rfl rfl (Mk.sN (us := [.int .u8 ((x.op : Nat) : Int), .int .i64 x.a, .int .i64 x.b, .int .i64 x.n]) rfl s40 rfl rfl rfl rfl rfl rfl) ?_
 rintro _ _ ⟨b30, rfl, rfl⟩
 refine To.ge rfl rfl rfl (Ge.append1 encIn (i := 6) (j := 0) (el := x) rfl s40 rfl rfl rfl rfl rfl (by first | omega | (simp; done) | (simp; omega)) (by first | omega | (simp; done) | (simp; omega))) ?_
 rintro _ _ ⟨A31, q31, rfl, rfl⟩
 refine To.f fl42_2 ?_
 refine To.u (Up.store (i := 4) rfl rfl rfl c40 rfl rfl (bt1 rfl)) ?_
 refine To.n (To.bn (To.t (To.g ?_)))
 refine To.r (Rd.inc rfl rfl rfl (by omega)) ?_
 refine To.m (To.n (To.t ?_))
 refine To.sub [(1, pv b1), (2, pv b2), (3, pv b3), (12, .slice A l.length q), (13, nv l.length), (14, nv ((i + 1)))] ⟨rfl, rfl, rfl, rfl, rfl, rfl, trivial⟩ ?_
 refine To.only [2, 2, 2, 2, 2] rfl ?_
 refine To.ag (l.length - (i + 1)) (by omega) ⟨A31, q31, (O ++ [x]), i + 1, rfl, rfl, rfl, (by omega), (by rw [take_of_get hx, hO])⟩
 refine To.ex (To.tx (To.tx (To.bx (To.t (To.s (To.g ?_))))))
 refine To.r (Rd.lS (i := 2) rfl rfl r42 rfl box_whole rfl) ?_
 refine To.u (Up.storeS (i := 1) rfl rfl rfl r42 rfl rfl rfl (bta rfl)) ?_
 refine To.n (To.t (To.rt ?_))
 refine To.endC [4] rfl (.inl rfl) Tryz.results17 rfl (i := 1) rfl r42 rfl ?_
 rw [show l.take i = l from List.take_of_length_le (by omega)] at hO
 exact ⟨_, _, by rw [hO], by rw [hO]⟩
end Go.Proofs.YtllalpnmagpkfaaGreatDoor

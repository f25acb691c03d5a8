/- A raw unit, and a unit as the program has it. Own text (walks printed by sx.py). -/
import Derived.Test.YtfkmjkooemjekaaGreatDoorL1
import Derived.Test.YtfkmjkooemjekaaGreatDoorC8
set_option linter.unusedVariables false
set_option linter.unusedSimpArgs false
namespace Go.Proofs.YtfkmjkooemjekaaGreatDoor
open Go.RowKit Go.Flow Go.Mem Go.Sep
structure Sp where
  t : Nat
  f : Nat
  v : Int
def Sp.cells (e : Sp) : List Value := [.int .u8 ((e.t : Nat) : Int), .int .u8 ((e.f : Nat) : Int), .int .i32 e.v]
theorem encSp : Enc Sp.cells 3 := ⟨fun _ => rfl, fun e u hu => by
  simp only [Sp.cells, List.mem_cons, List.not_mem_nil, or_false] at hu
  rcases hu with rfl | rfl | rfl <;> rfl⟩
theorem Rd.remI {P : Program} {o : Oper} {ρ : Slots} {Γ : List Chunk} {x y : Operand} {t t' : TypeId} {m n : Int} (ho : o.op = .binOp .rem t x y t') (hx : ev ρ x = some (.int .i32 m)) (hy : ev ρ y = some (.int .i32 n)) (h : n ≠ 0) : Rd P o ρ Γ (.int .i32 (m.tmod n)) := Rd.bin ho hx hy fun w => by simp [eqGuard, binOp, Op.intDiv, h]
theorem tmod6 (z : Int) : -6 < z.tmod 6 ∧ z.tmod 6 < 6 := ⟨Int.lt_tmod_of_pos z (by decide), Int.tmod_lt_of_pos z (by decide)⟩
set_option maxHeartbeats 2000000 in
set_option maxRecDepth 100000 in
theorem unit_fn (p s : Nat) (A : Option Addr) (q : Nat) (l : List Sp) (hp : p < 256) (hs : s < 256) (hl : ∀ e ∈ l, (e.t < 256 ∧ e.f < 256) ∧ -2147483648 ≤ e.v ∧ e.v ≤ 2147483647) :
    Does Tryz.prog 6 [.agg #[.int .u8 ((p : Nat) : Int), .int .u8 ((s : Nat) : Int), .slice A l.length q]] [ros Sp.cells A l] (fun v Γ' => ∃ (l' : List Ins) (B : Option Addr) (q' : Nat), v = .agg #[.int .i64 ((p % 6 : Nat) : Int), .int .i64 ((s % 8 : Nat) : Int), .slice B l'.length q'] ∧ Γ' = [rows Ins.rcells 61 4 B q' l'] ∧ l'.length ≤ 30 ∧ ∀ y ∈ l', y.op < 256) := by
  refine Does.enter Tryz.func6 rfl Tryz.ntmps6 rfl (fun w0 => ?_)
  refine To.seq (To.reg ?_)
  refine To.boxed rfl rfl rfl rfl rfl rfl (fun b1 => ?_)
  refine To.alloc rfl rfl rfl rfl z28 (fun b2 => ?_)
  refine To.nil (To.thenN (To.seq (To.reg ?_)))
  refine To.f fl24_0 ?_
  refine To.lo 1 c5 ?_
  refine To.r (Rd.remN (a := p) (b := 6) rfl rfl rfl (by omega)) ?_
  refine To.r (Rd.conv rfl rfl Tryz.underlying5 Tryz.underlying3 (IntWalk.i64_in _ (by omega))) ?_
  refine To.f fl24_1 ?_
  refine To.lo 1 c5 ?_
  refine To.r (Rd.remN (a := s) (b := 8) rfl rfl rfl (by omega)) ?_
  refine To.r (Rd.conv rfl rfl Tryz.underlying5 Tryz.underlying3 (IntWalk.i64_in _ (by omega))) ?_
  refine To.r (Rd.build (vs := [(0, .int .i64 ((p % 6 : Nat) : Int)), (1, .int .i64 ((s % 8 : Nat) : Int))]) (cells := [.int .i64 ((p % 6 : Nat) : Int), .int .i64 ((s % 8 : Nat) : Int), .slice none 0 0]) rfl rfl rfl (by kernel_rfl)) ?_
  refine To.alloc rfl rfl rfl rfl z28 (fun b3 => ?_)
  refine To.u (Up.storeS (i := 0) rfl rfl rfl r28 rfl rfl rfl (box_takesAll rfl)) ?_
  refine To.nil (To.thenN (To.seq (To.seq (To.reg ?_))))
  refine To.f fl24_2 ?_
  refine To.lo 2 c22 ?_
  refine To.r (Rd.len rfl rfl Tryz.underlying22) ?_
  refine To.m (To.nil (To.thenN (To.block ?_)))
  refine To.nilRow (Ins.rcells) 61 4 ?_
  refine To.sub [(1, .pointer (some ⟨b1, 0, none⟩)), (2, .pointer (some ⟨b2, 0, none⟩)), (3, .pointer (some ⟨b3, 0, none⟩)), (18, .slice A l.length q), (19, .int .i64 ((l.length : Nat) : Int)), (20, .int .i64 ((0 : Nat) : Int))] ⟨rfl, rfl, rfl, rfl, rfl, rfl, trivial⟩ ?_
  refine To.only [3, 2, 1, 1, 0] rfl ?_
  refine To.loop (fun mz ρ Γ => ∃ (Ao : Option Addr) (qo : Nat) (O : List Ins) (i : Nat), ρ = [(1, .pointer (some ⟨b1, 0, none⟩)), (2, .pointer (some ⟨b2, 0, none⟩)), (3, .pointer (some ⟨b3, 0, none⟩)), (18, .slice A l.length q), (19, .int .i64 ((l.length : Nat) : Int)), (20, .int .i64 ((i : Nat) : Int))] ∧ Γ = [box b1 [.int .u8 ((p : Nat) : Int), .int .u8 ((s : Nat) : Int), .slice A l.length q] 24, box b2 [.int .i64 0, .int .i64 0, .slice none 0 0] 28, box b3 [.int .i64 ((p % 6 : Nat) : Int), .int .i64 ((s % 8 : Nat) : Int), .slice Ao O.length qo] 28, ros Sp.cells A l, rows Ins.rcells 61 4 Ao qo O] ∧ mz = l.length - i ∧ (i ≤ l.length) ∧ (i ≤ 30) ∧ (O.length ≤ i) ∧ (∀ y ∈ O, y.op < 256)) (l.length - 0) ⟨none, 0, ([] : List Ins), 0, rfl, rfl, rfl, (Nat.zero_le _), (Nat.zero_le _), (Nat.le_refl _), (fun y hy => by cases hy)⟩ ?_
  rintro mz _ _ ⟨Ao, qo, O, i, rfl, rfl, rfl, hi, hi30, hOl, hO⟩
  refine To.seq (To.reg ?_)
  refine To.r (Rd.lss rfl rfl rfl) ?_
  refine To.nil (To.thenN (To.seq ?_))
  refine To.condP rfl (fun k21 => ?_) (fun k21 => ?_)
  ·
   obtain ⟨x, hx⟩ : ∃ z0, l[i]? = some z0 := ⟨l[i]'(by omega), List.getElem?_eq_getElem _⟩
   have hxv := hl x (List.mem_of_getElem? hx)
   refine To.skip (To.thenN (To.seq (To.block (To.seq (To.reg (To.m ?_))))))
   refine To.r (Rd.indexRos encSp (i := 3) (j := i) rfl rfl rfl s22 rfl hx) ?_
   refine To.r (Rd.loadS (i := 3) rfl rfl r59 rfl (ros_gives encSp hx) (encSp.len _)) ?_
   refine To.alloc rfl rfl rfl rfl z59 (fun b5 => ?_)
   refine To.a ?_
   refine To.u (Up.storeS (i := 0) rfl rfl rfl r59 rfl rfl rfl (box_takesAll rfl)) ?_
   refine To.nil (To.thenN (To.seq (To.seq (To.reg (To.m ?_)))))
   refine To.r (Rd.eql rfl rfl rfl) ?_
   refine To.nil (To.thenN ?_)
   refine To.condP rfl (fun k26 => ?_) (fun k26 => ?_)
   ·
    refine To.exit (To.thenX ?_)
    refine To.blockY rfl ?_
    refine To.thenX (To.thenX (To.blockX (To.thenN (To.seq (To.reg ?_)))))
    refine To.r (Rd.loadS (i := 3) rfl rfl r28 rfl box_whole rfl) ?_
    refine To.u (Up.storeS (i := 2) rfl rfl rfl r28 rfl rfl rfl (box_takesAll rfl)) ?_
    refine To.nil (To.thenN (To.ret ?_))
    refine To.endC [5] rfl (.inl rfl) Tryz.results6 rfl (i := 2) rfl r28 rfl ?_
    exact ⟨O, _, _, rfl, rfl, by omega, hO⟩
   refine To.skip (To.thenN (To.seq (To.reg ?_)))
   refine To.f fl59_1 ?_
   refine To.lo 0 c5 ?_
   refine To.r (Rd.remN (a := x.f) (b := 36) rfl rfl rfl (by omega)) ?_
   refine To.r (Rd.conv rfl rfl Tryz.underlying5 Tryz.underlying3 (IntWalk.i64_in _ (by omega))) ?_
   refine To.r (Rd.build (vs := [(0, .int .i64 ((x.f % 36 : Nat) : Int))]) (cells := [.int .i64 ((x.f % 36 : Nat) : Int), .int .i64 0, .int .i64 0, .int .i64 0]) rfl rfl rfl (by kernel_rfl)) ?_
   refine To.alloc rfl rfl rfl rfl z61 (fun b6 => ?_)
   refine To.u (Up.storeS (i := 0) rfl rfl rfl r61 rfl rfl rfl (box_takesAll rfl)) ?_
   refine To.nil (To.thenN (To.seq (To.reg ?_)))
   refine To.f fl59_2 ?_
   refine To.lo 1 c21 ?_
   refine To.r (Rd.remI rfl rfl rfl (by decide)) ?_
   refine To.r (Rd.conv rfl rfl Tryz.underlying21 Tryz.underlying3 (IntWalk.i64_in _ (by have := tmod6 x.v; omega))) ?_
   refine To.a (To.nil (To.thenN (To.seq (To.block (To.seq (To.reg ?_))))))
   refine To.f fl61_0 ?_
   refine To.lo 0 c3 ?_
   refine To.r (Rd.eql rfl rfl rfl) ?_
   refine To.a (To.nil (To.thenN ?_))
   refine To.condP rfl (fun k36 => ?_) (fun k36 => ?_)
   ·
    refine To.reg ?_
    refine To.f fl59_2 ?_
    refine To.lo 1 c21 ?_
    refine To.r (Rd.conv rfl rfl Tryz.underlying21 Tryz.underlying2 (IntWalk.i64_in _ (by omega))) ?_
    refine To.f fl61_3 ?_
    refine To.u (Up.store (i := 0) rfl rfl rfl c2 rfl rfl (box_takes1 rfl)) ?_
    refine To.nil (To.blockN (To.thenN (To.reg ?_)))
    refine To.f fl28_2 ?_
    refine To.lo 4 c26 ?_
    refine To.r (Rd.loadS (i := 0) rfl rfl r61 rfl box_whole rfl) ?_
    refine To.mk rfl rfl rfl (Mk.sliceN (us := [.int .i64 ((x.f % 36 : Nat) : Int), .int .i64 0, .int .i64 0, .int .i64 x.v]) rfl s26 rfl rfl rfl rfl rfl rfl) ?_
    rintro _ _ ⟨b141, rfl, rfl⟩
    refine To.ge rfl rfl rfl (Ge.append1 encRi (i := 7) (j := 0) (el := (⟨x.f % 36, 0, 0, x.v⟩ : Ins)) rfl s26 rfl rfl rfl rfl rfl (by first | omega | (simp only [List.length_append, List.length_cons, List.length_nil]; omega)) (by first | omega | (simp only [List.length_append, List.length_cons, List.length_nil]; omega))) ?_
    rintro _ _ ⟨A142, q142, rfl, rfl⟩
    refine To.f fl28_2 ?_
    refine To.u (Up.store (i := 5) rfl rfl rfl c26 rfl rfl (box_takes1 rfl)) ?_
    refine To.nil (To.blockN (To.thenN (To.reg ?_)))
    refine To.r (Rd.inc rfl rfl rfl (by omega)) ?_
    refine To.m (To.nil (To.thenN ?_))
    refine To.sub [(1, .pointer (some ⟨b1, 0, none⟩)), (2, .pointer (some ⟨b2, 0, none⟩)), (3, .pointer (some ⟨b3, 0, none⟩)), (18, .slice A l.length q), (19, .int .i64 ((l.length : Nat) : Int)), (20, .int .i64 (((i + 1) : Nat) : Int))] ⟨rfl, rfl, rfl, rfl, rfl, rfl, trivial⟩ ?_
    refine To.only [3, 3, 3, 3, 3] rfl ?_
    refine To.again (l.length - (i + 1)) (by omega) ⟨A142, q142, (O ++ [(⟨x.f % 36, 0, 0, x.v⟩ : Ins)]), i + 1, rfl, rfl, rfl, (by omega), (by omega), (by rw [List.length_append]; simp only [List.length_cons, List.length_nil]; omega), (fun y hy => by
      rcases List.mem_append.1 hy with h0 | h0
      · exact hO y h0
      · rw [List.mem_singleton.1 h0]; show x.f % 36 < 256; omega)⟩
   refine To.seq (To.reg ?_)
   refine To.f fl61_0 ?_
   refine To.lo 0 c3 ?_
   refine To.r (Rd.eql rfl rfl rfl) ?_
   refine To.rdP rfl rfl rfl (Rd.move rfl rfl) (fun g48 => ?_) (fun g48 => ?_)
   ·
    refine To.k ?_
    refine To.k ?_
    refine To.k ?_
    refine To.r (Rd.pickT rfl rfl rfl) ?_
    refine To.a (To.nil (To.thenN ?_))
    refine To.condT rfl ?_
    refine To.reg ?_
    refine To.f fl59_0 ?_
    refine To.lo 1 c5 ?_
    refine To.r (Rd.conv rfl rfl Tryz.underlying5 Tryz.underlying3 (IntWalk.i64_in _ (by omega))) ?_
    refine To.r (Rd.remN (a := x.t) (b := 12) rfl rfl rfl (by omega)) ?_
    refine To.f fl61_1 ?_
    refine To.u (Up.store (i := 0) rfl rfl rfl c3 rfl rfl (box_takes1 rfl)) ?_
    refine To.nil (To.blockN (To.thenN (To.reg ?_)))
    refine To.f fl28_2 ?_
    refine To.lo 4 c26 ?_
    refine To.r (Rd.loadS (i := 0) rfl rfl r61 rfl box_whole rfl) ?_
    refine To.mk rfl rfl rfl (Mk.sliceN (us := [.int .i64 ((x.f % 36 : Nat) : Int), .int .i64 ((x.t % 12 : Nat) : Int), .int .i64 0, .int .i64 0]) rfl s26 rfl rfl rfl rfl rfl rfl) ?_
    rintro _ _ ⟨b141_2, rfl, rfl⟩
    refine To.ge rfl rfl rfl (Ge.append1 encRi (i := 7) (j := 0) (el := (⟨x.f % 36, ((x.t % 12 : Nat) : Int), 0, 0⟩ : Ins)) rfl s26 rfl rfl rfl rfl rfl (by first | omega | (simp only [List.length_append, List.length_cons, List.length_nil]; omega)) (by first | omega | (simp only [List.length_append, List.length_cons, List.length_nil]; omega))) ?_
    rintro _ _ ⟨A142_2, q142_2, rfl, rfl⟩
    refine To.f fl28_2 ?_
    refine To.u (Up.store (i := 5) rfl rfl rfl c26 rfl rfl (box_takes1 rfl)) ?_
    refine To.nil (To.blockN (To.thenN (To.reg ?_)))
    refine To.r (Rd.inc rfl rfl rfl (by omega)) ?_
    refine To.m (To.nil (To.thenN ?_))
    refine To.sub [(1, .pointer (some ⟨b1, 0, none⟩)), (2, .pointer (some ⟨b2, 0, none⟩)), (3, .pointer (some ⟨b3, 0, none⟩)), (18, .slice A l.length q), (19, .int .i64 ((l.length : Nat) : Int)), (20, .int .i64 (((i + 1) : Nat) : Int))] ⟨rfl, rfl, rfl, rfl, rfl, rfl, trivial⟩ ?_
    refine To.only [3, 3, 3, 3, 3] rfl ?_
    refine To.again (l.length - (i + 1)) (by omega) ⟨A142_2, q142_2, (O ++ [(⟨x.f % 36, ((x.t % 12 : Nat) : Int), 0, 0⟩ : Ins)]), i + 1, rfl, rfl, rfl, (by omega), (by omega), (by rw [List.length_append]; simp only [List.length_cons, List.length_nil]; omega), (fun y hy => by
      rcases List.mem_append.1 hy with h0 | h0
      · exact hO y h0
      · rw [List.mem_singleton.1 h0]; show x.f % 36 < 256; omega)⟩
   refine To.f fl61_0 ?_
   refine To.lo 0 c3 ?_
   refine To.r (Rd.eql rfl rfl rfl) ?_
   refine To.r (Rd.pickF rfl rfl rfl) ?_
   refine To.a (To.nil (To.thenN ?_))
   refine To.condP rfl (fun k44 => ?_) (fun k44 => ?_)
   ·
    refine To.reg ?_
    refine To.f fl59_0 ?_
    refine To.lo 1 c5 ?_
    refine To.r (Rd.conv rfl rfl Tryz.underlying5 Tryz.underlying3 (IntWalk.i64_in _ (by omega))) ?_
    refine To.r (Rd.remN (a := x.t) (b := 12) rfl rfl rfl (by omega)) ?_
    refine To.f fl61_1 ?_
    refine To.u (Up.store (i := 0) rfl rfl rfl c3 rfl rfl (box_takes1 rfl)) ?_
    refine To.nil (To.blockN (To.thenN (To.reg ?_)))
    refine To.f fl28_2 ?_
    refine To.lo 4 c26 ?_
    refine To.r (Rd.loadS (i := 0) rfl rfl r61 rfl box_whole rfl) ?_
    refine To.mk rfl rfl rfl (Mk.sliceN (us := [.int .i64 ((x.f % 36 : Nat) : Int), .int .i64 ((x.t % 12 : Nat) : Int), .int .i64 0, .int .i64 0]) rfl s26 rfl rfl rfl rfl rfl rfl) ?_
    rintro _ _ ⟨b141_3, rfl, rfl⟩
    refine To.ge rfl rfl rfl (Ge.append1 encRi (i := 7) (j := 0) (el := (⟨x.f % 36, ((x.t % 12 : Nat) : Int), 0, 0⟩ : Ins)) rfl s26 rfl rfl rfl rfl rfl (by first | omega | (simp only [List.length_append, List.length_cons, List.length_nil]; omega)) (by first | omega | (simp only [List.length_append, List.length_cons, List.length_nil]; omega))) ?_
    rintro _ _ ⟨A142_3, q142_3, rfl, rfl⟩
    refine To.f fl28_2 ?_
    refine To.u (Up.store (i := 5) rfl rfl rfl c26 rfl rfl (box_takes1 rfl)) ?_
    refine To.nil (To.blockN (To.thenN (To.reg ?_)))
    refine To.r (Rd.inc rfl rfl rfl (by omega)) ?_
    refine To.m (To.nil (To.thenN ?_))
    refine To.sub [(1, .pointer (some ⟨b1, 0, none⟩)), (2, .pointer (some ⟨b2, 0, none⟩)), (3, .pointer (some ⟨b3, 0, none⟩)), (18, .slice A l.length q), (19, .int .i64 ((l.length : Nat) : Int)), (20, .int .i64 (((i + 1) : Nat) : Int))] ⟨rfl, rfl, rfl, rfl, rfl, rfl, trivial⟩ ?_
    refine To.only [3, 3, 3, 3, 3] rfl ?_
    refine To.again (l.length - (i + 1)) (by omega) ⟨A142_3, q142_3, (O ++ [(⟨x.f % 36, ((x.t % 12 : Nat) : Int), 0, 0⟩ : Ins)]), i + 1, rfl, rfl, rfl, (by omega), (by omega), (by rw [List.length_append]; simp only [List.length_cons, List.length_nil]; omega), (fun y hy => by
      rcases List.mem_append.1 hy with h0 | h0
      · exact hO y h0
      · rw [List.mem_singleton.1 h0]; show x.f % 36 < 256; omega)⟩
   refine To.seq (To.reg ?_)
   refine To.f fl61_0 ?_
   refine To.lo 0 c3 ?_
   refine To.r (Rd.eql rfl rfl rfl) ?_
   refine To.a (To.nil (To.thenN ?_))
   refine To.condP rfl (fun k58 => ?_) (fun k58 => ?_)
   ·
    refine To.flow [box b5 [.int .u8 ((x.t : Nat) : Int), .int .u8 ((x.f : Nat) : Int), .int .i32 x.v] 59] [⟨0, [], 0⟩, ⟨1, [], 0⟩, ⟨2, [], 0⟩, ⟨3, [], 0⟩, ⟨4, [], 0⟩, ⟨5, [], 0⟩, ⟨6, [], 0⟩, ⟨7, [], 5⟩, ⟨8, [], 0⟩, ⟨9, [], 5⟩, ⟨10, [], 0⟩, ⟨11, [], 5⟩] mixed (by kernel_rfl) (oks_cons (oks_at 1 rfl) (oks_nil _)) ?_
    refine FlowS.mo ?_
    refine FlowS.mo ?_
    refine FlowS.fi fl59_0 ?_
    refine FlowS.th 0 c5 ?_
    refine FlowS.f rfl (Rd.remN (a := x.t) (b := 3) rfl rfl rfl (by omega)) ?_
    refine FlowS.f rfl (Rd.conv rfl rfl Tryz.underlying5 Tryz.underlying2 (IntWalk.i64_in _ (by omega))) ?_
    refine FlowS.fi fl61_1 ?_
    refine FlowS.up rfl rfl rfl (Up.store (i := 0) rfl rfl rfl c3 rfl rfl (box_takes1 rfl)) (oks_cons (oks_at 1 rfl) (oks_nil _)) ?_
    refine FlowS.fi fl61_2 ?_
    refine FlowS.up rfl rfl rfl (Up.store (i := 0) rfl rfl rfl c3 rfl rfl (box_takes1 rfl)) (oks_cons (oks_at 1 rfl) (oks_nil _)) ?_
    refine FlowS.fi fl61_3 ?_
    refine FlowS.up rfl rfl rfl (Up.store (i := 0) rfl rfl rfl c2 rfl rfl (box_takes1 rfl)) (oks_cons (oks_at 1 rfl) (oks_nil _)) ?_
    refine FlowS.fin ?_
    refine To.blockN (To.thenN (To.reg ?_))
    refine To.f fl28_2 ?_
    refine To.lo 4 c26 ?_
    refine To.r (Rd.loadS (i := 0) rfl rfl r61 rfl box_whole rfl) ?_
    refine To.mk rfl rfl rfl (Mk.sliceN (us := [.int .i64 ((x.f % 36 : Nat) : Int), .int .i64 (x.v.tmod 6), .int .i64 (x.v.tmod 6), .int .i64 ((x.t % 3 : Nat) : Int)]) rfl s26 rfl rfl rfl rfl rfl rfl) ?_
    rintro _ _ ⟨b141_4, rfl, rfl⟩
    refine To.ge rfl rfl rfl (Ge.append1 encRi (i := 7) (j := 0) (el := (⟨x.f % 36, x.v.tmod 6, x.v.tmod 6, ((x.t % 3 : Nat) : Int)⟩ : Ins)) rfl s26 rfl rfl rfl rfl rfl (by first | omega | (simp only [List.length_append, List.length_cons, List.length_nil]; omega)) (by first | omega | (simp only [List.length_append, List.length_cons, List.length_nil]; omega))) ?_
    rintro _ _ ⟨A142_4, q142_4, rfl, rfl⟩
    refine To.f fl28_2 ?_
    refine To.u (Up.store (i := 5) rfl rfl rfl c26 rfl rfl (box_takes1 rfl)) ?_
    refine To.nil (To.blockN (To.thenN (To.reg ?_)))
    refine To.r (Rd.inc rfl rfl rfl (by omega)) ?_
    refine To.m (To.nil (To.thenN ?_))
    refine To.sub [(1, .pointer (some ⟨b1, 0, none⟩)), (2, .pointer (some ⟨b2, 0, none⟩)), (3, .pointer (some ⟨b3, 0, none⟩)), (18, .slice A l.length q), (19, .int .i64 ((l.length : Nat) : Int)), (20, .int .i64 (((i + 1) : Nat) : Int))] ⟨rfl, rfl, rfl, rfl, rfl, rfl, trivial⟩ ?_
    refine To.only [3, 3, 3, 3, 3] rfl ?_
    refine To.again (l.length - (i + 1)) (by omega) ⟨A142_4, q142_4, (O ++ [(⟨x.f % 36, x.v.tmod 6, x.v.tmod 6, ((x.t % 3 : Nat) : Int)⟩ : Ins)]), i + 1, rfl, rfl, rfl, (by omega), (by omega), (by rw [List.length_append]; simp only [List.length_cons, List.length_nil]; omega), (fun y hy => by
      rcases List.mem_append.1 hy with h0 | h0
      · exact hO y h0
      · rw [List.mem_singleton.1 h0]; show x.f % 36 < 256; omega)⟩
   refine To.seq (To.reg ?_)
   refine To.f fl61_0 ?_
   refine To.lo 0 c3 ?_
   refine To.r (Rd.eql rfl rfl rfl) ?_
   refine To.a (To.nil (To.thenN ?_))
   refine To.condP rfl (fun k71 => ?_) (fun k71 => ?_)
   ·
    refine To.flow [box b5 [.int .u8 ((x.t : Nat) : Int), .int .u8 ((x.f : Nat) : Int), .int .i32 x.v] 59] [⟨0, [], 0⟩, ⟨1, [], 0⟩, ⟨2, [], 0⟩, ⟨3, [], 0⟩, ⟨4, [], 0⟩, ⟨5, [], 0⟩, ⟨6, [], 5⟩, ⟨7, [], 0⟩, ⟨8, [], 5⟩] mixed (by kernel_rfl) (oks_cons (oks_at 1 rfl) (oks_nil _)) ?_
    refine FlowS.mo ?_
    refine FlowS.fi fl59_0 ?_
    refine FlowS.th 0 c5 ?_
    refine FlowS.f rfl (Rd.remN (a := x.t) (b := 3) rfl rfl rfl (by omega)) ?_
    refine FlowS.f rfl (Rd.conv rfl rfl Tryz.underlying5 Tryz.underlying2 (IntWalk.i64_in _ (by omega))) ?_
    refine FlowS.fi fl61_2 ?_
    refine FlowS.up rfl rfl rfl (Up.store (i := 0) rfl rfl rfl c3 rfl rfl (box_takes1 rfl)) (oks_cons (oks_at 1 rfl) (oks_nil _)) ?_
    refine FlowS.fi fl61_3 ?_
    refine FlowS.up rfl rfl rfl (Up.store (i := 0) rfl rfl rfl c2 rfl rfl (box_takes1 rfl)) (oks_cons (oks_at 1 rfl) (oks_nil _)) ?_
    refine FlowS.fin ?_
    refine To.blockN (To.thenN (To.reg ?_))
    refine To.f fl28_2 ?_
    refine To.lo 4 c26 ?_
    refine To.r (Rd.loadS (i := 0) rfl rfl r61 rfl box_whole rfl) ?_
    refine To.mk rfl rfl rfl (Mk.sliceN (us := [.int .i64 ((x.f % 36 : Nat) : Int), .int .i64 0, .int .i64 (x.v.tmod 6), .int .i64 ((x.t % 3 : Nat) : Int)]) rfl s26 rfl rfl rfl rfl rfl rfl) ?_
    rintro _ _ ⟨b141_5, rfl, rfl⟩
    refine To.ge rfl rfl rfl (Ge.append1 encRi (i := 7) (j := 0) (el := (⟨x.f % 36, 0, x.v.tmod 6, ((x.t % 3 : Nat) : Int)⟩ : Ins)) rfl s26 rfl rfl rfl rfl rfl (by first | omega | (simp only [List.length_append, List.length_cons, List.length_nil]; omega)) (by first | omega | (simp only [List.length_append, List.length_cons, List.length_nil]; omega))) ?_
    rintro _ _ ⟨A142_5, q142_5, rfl, rfl⟩
    refine To.f fl28_2 ?_
    refine To.u (Up.store (i := 5) rfl rfl rfl c26 rfl rfl (box_takes1 rfl)) ?_
    refine To.nil (To.blockN (To.thenN (To.reg ?_)))
    refine To.r (Rd.inc rfl rfl rfl (by omega)) ?_
    refine To.m (To.nil (To.thenN ?_))
    refine To.sub [(1, .pointer (some ⟨b1, 0, none⟩)), (2, .pointer (some ⟨b2, 0, none⟩)), (3, .pointer (some ⟨b3, 0, none⟩)), (18, .slice A l.length q), (19, .int .i64 ((l.length : Nat) : Int)), (20, .int .i64 (((i + 1) : Nat) : Int))] ⟨rfl, rfl, rfl, rfl, rfl, rfl, trivial⟩ ?_
    refine To.only [3, 3, 3, 3, 3] rfl ?_
    refine To.again (l.length - (i + 1)) (by omega) ⟨A142_5, q142_5, (O ++ [(⟨x.f % 36, 0, x.v.tmod 6, ((x.t % 3 : Nat) : Int)⟩ : Ins)]), i + 1, rfl, rfl, rfl, (by omega), (by omega), (by rw [List.length_append]; simp only [List.length_cons, List.length_nil]; omega), (fun y hy => by
      rcases List.mem_append.1 hy with h0 | h0
      · exact hO y h0
      · rw [List.mem_singleton.1 h0]; show x.f % 36 < 256; omega)⟩
   refine To.seq (To.reg ?_)
   refine To.f fl61_0 ?_
   refine To.lo 0 c3 ?_
   refine To.r (Rd.eql rfl rfl rfl) ?_
   refine To.a (To.nil (To.thenN ?_))
   refine To.condP rfl (fun k82 => ?_) (fun k82 => ?_)
   ·
    refine To.reg ?_
    refine To.f fl59_0 ?_
    refine To.lo 1 c5 ?_
    refine To.r (Rd.conv rfl rfl Tryz.underlying5 Tryz.underlying3 (IntWalk.i64_in _ (by omega))) ?_
    refine To.r (Rd.remN (a := x.t) (b := 12) rfl rfl rfl (by omega)) ?_
    refine To.f fl61_2 ?_
    refine To.u (Up.store (i := 0) rfl rfl rfl c3 rfl rfl (box_takes1 rfl)) ?_
    refine To.nil (To.blockN (To.thenN (To.reg ?_)))
    refine To.f fl28_2 ?_
    refine To.lo 4 c26 ?_
    refine To.r (Rd.loadS (i := 0) rfl rfl r61 rfl box_whole rfl) ?_
    refine To.mk rfl rfl rfl (Mk.sliceN (us := [.int .i64 ((x.f % 36 : Nat) : Int), .int .i64 0, .int .i64 ((x.t % 12 : Nat) : Int), .int .i64 0]) rfl s26 rfl rfl rfl rfl rfl rfl) ?_
    rintro _ _ ⟨b141_6, rfl, rfl⟩
    refine To.ge rfl rfl rfl (Ge.append1 encRi (i := 7) (j := 0) (el := (⟨x.f % 36, 0, ((x.t % 12 : Nat) : Int), 0⟩ : Ins)) rfl s26 rfl rfl rfl rfl rfl (by first | omega | (simp only [List.length_append, List.length_cons, List.length_nil]; omega)) (by first | omega | (simp only [List.length_append, List.length_cons, List.length_nil]; omega))) ?_
    rintro _ _ ⟨A142_6, q142_6, rfl, rfl⟩
    refine To.f fl28_2 ?_
    refine To.u (Up.store (i := 5) rfl rfl rfl c26 rfl rfl (box_takes1 rfl)) ?_
    refine To.nil (To.blockN (To.thenN (To.reg ?_)))
    refine To.r (Rd.inc rfl rfl rfl (by omega)) ?_
    refine To.m (To.nil (To.thenN ?_))
    refine To.sub [(1, .pointer (some ⟨b1, 0, none⟩)), (2, .pointer (some ⟨b2, 0, none⟩)), (3, .pointer (some ⟨b3, 0, none⟩)), (18, .slice A l.length q), (19, .int .i64 ((l.length : Nat) : Int)), (20, .int .i64 (((i + 1) : Nat) : Int))] ⟨rfl, rfl, rfl, rfl, rfl, rfl, trivial⟩ ?_
    refine To.only [3, 3, 3, 3, 3] rfl ?_
    refine To.again (l.length - (i + 1)) (by omega) ⟨A142_6, q142_6, (O ++ [(⟨x.f % 36, 0, ((x.t % 12 : Nat) : Int), 0⟩ : Ins)]), i + 1, rfl, rfl, rfl, (by omega), (by omega), (by rw [List.length_append]; simp only [List.length_cons, List.length_nil]; omega), (fun y hy => by
      rcases List.mem_append.1 hy with h0 | h0
      · exact hO y h0
      · rw [List.mem_singleton.1 h0]; show x.f % 36 < 256; omega)⟩
   refine To.seq (To.reg ?_)
   refine To.f fl61_0 ?_
   refine To.lo 0 c3 ?_
   refine To.r (Rd.eql rfl rfl rfl) ?_
   refine To.a (To.nil (To.thenN ?_))
   refine To.condP rfl (fun k91 => ?_) (fun k91 => ?_)
   ·
    refine To.flow [box b5 [.int .u8 ((x.t : Nat) : Int), .int .u8 ((x.f : Nat) : Int), .int .i32 x.v] 59] [⟨0, [], 0⟩, ⟨1, [], 0⟩, ⟨2, [], 0⟩, ⟨3, [], 0⟩, ⟨4, [], 0⟩, ⟨5, [], 0⟩, ⟨6, [], 5⟩, ⟨7, [], 0⟩, ⟨8, [], 5⟩] mixed (by kernel_rfl) (oks_cons (oks_at 1 rfl) (oks_nil _)) ?_
    refine FlowS.mo ?_
    refine FlowS.fi fl59_0 ?_
    refine FlowS.th 0 c5 ?_
    refine FlowS.f rfl (Rd.conv rfl rfl Tryz.underlying5 Tryz.underlying3 (IntWalk.i64_in _ (by omega))) ?_
    refine FlowS.f rfl (Rd.remN (a := x.t) (b := 12) rfl rfl rfl (by omega)) ?_
    refine FlowS.fi fl61_1 ?_
    refine FlowS.up rfl rfl rfl (Up.store (i := 0) rfl rfl rfl c3 rfl rfl (box_takes1 rfl)) (oks_cons (oks_at 1 rfl) (oks_nil _)) ?_
    refine FlowS.fi fl61_2 ?_
    refine FlowS.up rfl rfl rfl (Up.store (i := 0) rfl rfl rfl c3 rfl rfl (box_takes1 rfl)) (oks_cons (oks_at 1 rfl) (oks_nil _)) ?_
    refine FlowS.fin ?_
    refine To.blockN (To.thenN (To.reg ?_))
    refine To.f fl28_2 ?_
    refine To.lo 4 c26 ?_
    refine To.r (Rd.loadS (i := 0) rfl rfl r61 rfl box_whole rfl) ?_
    refine To.mk rfl rfl rfl (Mk.sliceN (us := [.int .i64 ((x.f % 36 : Nat) : Int), .int .i64 (x.v.tmod 6), .int .i64 ((x.t % 12 : Nat) : Int), .int .i64 0]) rfl s26 rfl rfl rfl rfl rfl rfl) ?_
    rintro _ _ ⟨b141_7, rfl, rfl⟩
    refine To.ge rfl rfl rfl (Ge.append1 encRi (i := 7) (j := 0) (el := (⟨x.f % 36, x.v.tmod 6, ((x.t % 12 : Nat) : Int), 0⟩ : Ins)) rfl s26 rfl rfl rfl rfl rfl (by first | omega | (simp only [List.length_append, List.length_cons, List.length_nil]; omega)) (by first | omega | (simp only [List.length_append, List.length_cons, List.length_nil]; omega))) ?_
    rintro _ _ ⟨A142_7, q142_7, rfl, rfl⟩
    refine To.f fl28_2 ?_
    refine To.u (Up.store (i := 5) rfl rfl rfl c26 rfl rfl (box_takes1 rfl)) ?_
    refine To.nil (To.blockN (To.thenN (To.reg ?_)))
    refine To.r (Rd.inc rfl rfl rfl (by omega)) ?_
    refine To.m (To.nil (To.thenN ?_))
    refine To.sub [(1, .pointer (some ⟨b1, 0, none⟩)), (2, .pointer (some ⟨b2, 0, none⟩)), (3, .pointer (some ⟨b3, 0, none⟩)), (18, .slice A l.length q), (19, .int .i64 ((l.length : Nat) : Int)), (20, .int .i64 (((i + 1) : Nat) : Int))] ⟨rfl, rfl, rfl, rfl, rfl, rfl, trivial⟩ ?_
    refine To.only [3, 3, 3, 3, 3] rfl ?_
    refine To.again (l.length - (i + 1)) (by omega) ⟨A142_7, q142_7, (O ++ [(⟨x.f % 36, x.v.tmod 6, ((x.t % 12 : Nat) : Int), 0⟩ : Ins)]), i + 1, rfl, rfl, rfl, (by omega), (by omega), (by rw [List.length_append]; simp only [List.length_cons, List.length_nil]; omega), (fun y hy => by
      rcases List.mem_append.1 hy with h0 | h0
      · exact hO y h0
      · rw [List.mem_singleton.1 h0]; show x.f % 36 < 256; omega)⟩
   refine To.seq (To.reg ?_)
   refine To.f fl61_0 ?_
   refine To.lo 0 c3 ?_
   refine To.r (Rd.eql rfl rfl rfl) ?_
   refine To.rdP rfl rfl rfl (Rd.move rfl rfl) (fun g106 => ?_) (fun g106 => ?_)
   ·
    refine To.k ?_
    refine To.k ?_
    refine To.k ?_
    refine To.r (Rd.pickT rfl rfl rfl) ?_
    refine To.m ?_
    refine To.k ?_
    refine To.k ?_
    refine To.k ?_
    refine To.r (Rd.pickT rfl rfl rfl) ?_
    refine To.m ?_
    refine To.k ?_
    refine To.k ?_
    refine To.k ?_
    refine To.k ?_
    refine To.k ?_
    refine To.k ?_
    refine To.k ?_
    refine To.k ?_
    refine To.r (Rd.pickT rfl rfl rfl) ?_
    refine To.m ?_
    refine To.k ?_
    refine To.k ?_
    refine To.k ?_
    refine To.k ?_
    refine To.k ?_
    refine To.k ?_
    refine To.k ?_
    refine To.k ?_
    refine To.r (Rd.pickT rfl rfl rfl) ?_
    refine To.a (To.nil ?_)
    refine To.sub [(1, .pointer (some ⟨b1, 0, none⟩)), (2, .pointer (some ⟨b2, 0, none⟩)), (3, .pointer (some ⟨b3, 0, none⟩)), (18, .slice A l.length q), (19, .int .i64 ((l.length : Nat) : Int)), (20, .int .i64 ((i : Nat) : Int)), (21, .bool (decide (((i : Nat) : Int) < ((l.length : Nat) : Int)))), (5, .pointer (some ⟨b5, 0, none⟩)), (4, .int .i64 ((i : Nat) : Int)), (26, .bool (decide (((i : Nat) : Int) = 30))), (6, .pointer (some ⟨b6, 0, none⟩)), (7, .int .i64 (x.v.tmod 6)), (36, .bool (decide (((x.f % 36 : Nat) : Int) = 1))), (44, .bool (decide (((x.f % 36 : Nat) : Int) = 28))), (58, .bool (decide (((x.f % 36 : Nat) : Int) = 30))), (71, .bool (decide (((x.f % 36 : Nat) : Int) = 31))), (82, .bool (decide (((x.f % 36 : Nat) : Int) = 32))), (91, .bool (decide (((x.f % 36 : Nat) : Int) = 33))), (102, .bool true)] ⟨rfl, rfl, rfl, rfl, rfl, rfl, rfl, rfl, rfl, rfl, rfl, rfl, rfl, rfl, rfl, rfl, rfl, rfl, rfl, trivial⟩ ?_
    refine To.thenN ?_
    refine To.condT rfl ?_
    refine To.reg (To.m ?_)
    refine To.f fl61_1 ?_
    refine To.u (Up.store (i := 0) rfl rfl rfl c3 rfl rfl (box_takes1 rfl)) ?_
    refine To.nil (To.blockN (To.thenN (To.reg ?_)))
    refine To.f fl28_2 ?_
    refine To.lo 4 c26 ?_
    refine To.r (Rd.loadS (i := 0) rfl rfl r61 rfl box_whole rfl) ?_
    refine To.mk rfl rfl rfl (Mk.sliceN (us := [.int .i64 ((x.f % 36 : Nat) : Int), .int .i64 (x.v.tmod 6), .int .i64 0, .int .i64 0]) rfl s26 rfl rfl rfl rfl rfl rfl) ?_
    rintro _ _ ⟨b141_8, rfl, rfl⟩
    refine To.ge rfl rfl rfl (Ge.append1 encRi (i := 7) (j := 0) (el := (⟨x.f % 36, x.v.tmod 6, 0, 0⟩ : Ins)) rfl s26 rfl rfl rfl rfl rfl (by first | omega | (simp only [List.length_append, List.length_cons, List.length_nil]; omega)) (by first | omega | (simp only [List.length_append, List.length_cons, List.length_nil]; omega))) ?_
    rintro _ _ ⟨A142_8, q142_8, rfl, rfl⟩
    refine To.f fl28_2 ?_
    refine To.u (Up.store (i := 5) rfl rfl rfl c26 rfl rfl (box_takes1 rfl)) ?_
    refine To.nil (To.blockN (To.thenN (To.reg ?_)))
    refine To.r (Rd.inc rfl rfl rfl (by omega)) ?_
    refine To.m (To.nil (To.thenN ?_))
    refine To.sub [(1, .pointer (some ⟨b1, 0, none⟩)), (2, .pointer (some ⟨b2, 0, none⟩)), (3, .pointer (some ⟨b3, 0, none⟩)), (18, .slice A l.length q), (19, .int .i64 ((l.length : Nat) : Int)), (20, .int .i64 (((i + 1) : Nat) : Int))] ⟨rfl, rfl, rfl, rfl, rfl, rfl, trivial⟩ ?_
    refine To.only [3, 3, 3, 3, 3] rfl ?_
    refine To.again (l.length - (i + 1)) (by omega) ⟨A142_8, q142_8, (O ++ [(⟨x.f % 36, x.v.tmod 6, 0, 0⟩ : Ins)]), i + 1, rfl, rfl, rfl, (by omega), (by omega), (by rw [List.length_append]; simp only [List.length_cons, List.length_nil]; omega), (fun y hy => by
      rcases List.mem_append.1 hy with h0 | h0
      · exact hO y h0
      · rw [List.mem_singleton.1 h0]; show x.f % 36 < 256; omega)⟩
   refine To.f fl61_0 ?_
   refine To.lo 0 c3 ?_
   refine To.r (Rd.eql rfl rfl rfl) ?_
   refine To.r (Rd.pickF rfl rfl rfl) ?_
   refine To.rdP rfl rfl rfl (Rd.move rfl rfl) (fun g111 => ?_) (fun g111 => ?_)
   ·
    refine To.k ?_
    refine To.k ?_
    refine To.k ?_
    refine To.r (Rd.pickT rfl rfl rfl) ?_
    refine To.m ?_
    refine To.k ?_
    refine To.k ?_
    refine To.k ?_
    refine To.k ?_
    refine To.k ?_
    refine To.k ?_
    refine To.k ?_
    refine To.k ?_
    refine To.r (Rd.pickT rfl rfl rfl) ?_
    refine To.m ?_
    refine To.k ?_
    refine To.k ?_
    refine To.k ?_
    refine To.k ?_
    refine To.k ?_
    refine To.k ?_
    refine To.k ?_
    refine To.k ?_
    refine To.r (Rd.pickT rfl rfl rfl) ?_
    refine To.a (To.nil ?_)
    refine To.sub [(1, .pointer (some ⟨b1, 0, none⟩)), (2, .pointer (some ⟨b2, 0, none⟩)), (3, .pointer (some ⟨b3, 0, none⟩)), (18, .slice A l.length q), (19, .int .i64 ((l.length : Nat) : Int)), (20, .int .i64 ((i : Nat) : Int)), (21, .bool (decide (((i : Nat) : Int) < ((l.length : Nat) : Int)))), (5, .pointer (some ⟨b5, 0, none⟩)), (4, .int .i64 ((i : Nat) : Int)), (26, .bool (decide (((i : Nat) : Int) = 30))), (6, .pointer (some ⟨b6, 0, none⟩)), (7, .int .i64 (x.v.tmod 6)), (36, .bool (decide (((x.f % 36 : Nat) : Int) = 1))), (44, .bool (decide (((x.f % 36 : Nat) : Int) = 28))), (58, .bool (decide (((x.f % 36 : Nat) : Int) = 30))), (71, .bool (decide (((x.f % 36 : Nat) : Int) = 31))), (82, .bool (decide (((x.f % 36 : Nat) : Int) = 32))), (91, .bool (decide (((x.f % 36 : Nat) : Int) = 33))), (102, .bool true)] ⟨rfl, rfl, rfl, rfl, rfl, rfl, rfl, rfl, rfl, rfl, rfl, rfl, rfl, rfl, rfl, rfl, rfl, rfl, rfl, trivial⟩ ?_
    refine To.thenN ?_
    refine To.condT rfl ?_
    refine To.reg (To.m ?_)
    refine To.f fl61_1 ?_
    refine To.u (Up.store (i := 0) rfl rfl rfl c3 rfl rfl (box_takes1 rfl)) ?_
    refine To.nil (To.blockN (To.thenN (To.reg ?_)))
    refine To.f fl28_2 ?_
    refine To.lo 4 c26 ?_
    refine To.r (Rd.loadS (i := 0) rfl rfl r61 rfl box_whole rfl) ?_
    refine To.mk rfl rfl rfl (Mk.sliceN (us := [.int .i64 ((x.f % 36 : Nat) : Int), .int .i64 (x.v.tmod 6), .int .i64 0, .int .i64 0]) rfl s26 rfl rfl rfl rfl rfl rfl) ?_
    rintro _ _ ⟨b141_9, rfl, rfl⟩
    refine To.ge rfl rfl rfl (Ge.append1 encRi (i := 7) (j := 0) (el := (⟨x.f % 36, x.v.tmod 6, 0, 0⟩ : Ins)) rfl s26 rfl rfl rfl rfl rfl (by first | omega | (simp only [List.length_append, List.length_cons, List.length_nil]; omega)) (by first | omega | (simp only [List.length_append, List.length_cons, List.length_nil]; omega))) ?_
    rintro _ _ ⟨A142_9, q142_9, rfl, rfl⟩
    refine To.f fl28_2 ?_
    refine To.u (Up.store (i := 5) rfl rfl rfl c26 rfl rfl (box_takes1 rfl)) ?_
    refine To.nil (To.blockN (To.thenN (To.reg ?_)))
    refine To.r (Rd.inc rfl rfl rfl (by omega)) ?_
    refine To.m (To.nil (To.thenN ?_))
    refine To.sub [(1, .pointer (some ⟨b1, 0, none⟩)), (2, .pointer (some ⟨b2, 0, none⟩)), (3, .pointer (some ⟨b3, 0, none⟩)), (18, .slice A l.length q), (19, .int .i64 ((l.length : Nat) : Int)), (20, .int .i64 (((i + 1) : Nat) : Int))] ⟨rfl, rfl, rfl, rfl, rfl, rfl, trivial⟩ ?_
    refine To.only [3, 3, 3, 3, 3] rfl ?_
    refine To.again (l.length - (i + 1)) (by omega) ⟨A142_9, q142_9, (O ++ [(⟨x.f % 36, x.v.tmod 6, 0, 0⟩ : Ins)]), i + 1, rfl, rfl, rfl, (by omega), (by omega), (by rw [List.length_append]; simp only [List.length_cons, List.length_nil]; omega), (fun y hy => by
      rcases List.mem_append.1 hy with h0 | h0
      · exact hO y h0
      · rw [List.mem_singleton.1 h0]; show x.f % 36 < 256; omega)⟩
   refine To.f fl61_0 ?_
   refine To.lo 0 c3 ?_
   refine To.r (Rd.eql rfl rfl rfl) ?_
   refine To.r (Rd.pickF rfl rfl rfl) ?_
   refine To.rdP rfl rfl rfl (Rd.move rfl rfl) (fun g116 => ?_) (fun g116 => ?_)
   ·
    refine To.k ?_
    refine To.k ?_
    refine To.k ?_
    refine To.k ?_
    refine To.k ?_
    refine To.k ?_
    refine To.k ?_
    refine To.k ?_
    refine To.r (Rd.pickT rfl rfl rfl) ?_
    refine To.m ?_
    refine To.k ?_
    refine To.k ?_
    refine To.k ?_
    refine To.k ?_
    refine To.k ?_
    refine To.k ?_
    refine To.k ?_
    refine To.k ?_
    refine To.r (Rd.pickT rfl rfl rfl) ?_
    refine To.a (To.nil ?_)
    refine To.sub [(1, .pointer (some ⟨b1, 0, none⟩)), (2, .pointer (some ⟨b2, 0, none⟩)), (3, .pointer (some ⟨b3, 0, none⟩)), (18, .slice A l.length q), (19, .int .i64 ((l.length : Nat) : Int)), (20, .int .i64 ((i : Nat) : Int)), (21, .bool (decide (((i : Nat) : Int) < ((l.length : Nat) : Int)))), (5, .pointer (some ⟨b5, 0, none⟩)), (4, .int .i64 ((i : Nat) : Int)), (26, .bool (decide (((i : Nat) : Int) = 30))), (6, .pointer (some ⟨b6, 0, none⟩)), (7, .int .i64 (x.v.tmod 6)), (36, .bool (decide (((x.f % 36 : Nat) : Int) = 1))), (44, .bool (decide (((x.f % 36 : Nat) : Int) = 28))), (58, .bool (decide (((x.f % 36 : Nat) : Int) = 30))), (71, .bool (decide (((x.f % 36 : Nat) : Int) = 31))), (82, .bool (decide (((x.f % 36 : Nat) : Int) = 32))), (91, .bool (decide (((x.f % 36 : Nat) : Int) = 33))), (102, .bool true)] ⟨rfl, rfl, rfl, rfl, rfl, rfl, rfl, rfl, rfl, rfl, rfl, rfl, rfl, rfl, rfl, rfl, rfl, rfl, rfl, trivial⟩ ?_
    refine To.thenN ?_
    refine To.condT rfl ?_
    refine To.reg (To.m ?_)
    refine To.f fl61_1 ?_
    refine To.u (Up.store (i := 0) rfl rfl rfl c3 rfl rfl (box_takes1 rfl)) ?_
    refine To.nil (To.blockN (To.thenN (To.reg ?_)))
    refine To.f fl28_2 ?_
    refine To.lo 4 c26 ?_
    refine To.r (Rd.loadS (i := 0) rfl rfl r61 rfl box_whole rfl) ?_
    refine To.mk rfl rfl rfl (Mk.sliceN (us := [.int .i64 ((x.f % 36 : Nat) : Int), .int .i64 (x.v.tmod 6), .int .i64 0, .int .i64 0]) rfl s26 rfl rfl rfl rfl rfl rfl) ?_
    rintro _ _ ⟨b141_10, rfl, rfl⟩
    refine To.ge rfl rfl rfl (Ge.append1 encRi (i := 7) (j := 0) (el := (⟨x.f % 36, x.v.tmod 6, 0, 0⟩ : Ins)) rfl s26 rfl rfl rfl rfl rfl (by first | omega | (simp only [List.length_append, List.length_cons, List.length_nil]; omega)) (by first | omega | (simp only [List.length_append, List.length_cons, List.length_nil]; omega))) ?_
    rintro _ _ ⟨A142_10, q142_10, rfl, rfl⟩
    refine To.f fl28_2 ?_
    refine To.u (Up.store (i := 5) rfl rfl rfl c26 rfl rfl (box_takes1 rfl)) ?_
    refine To.nil (To.blockN (To.thenN (To.reg ?_)))
    refine To.r (Rd.inc rfl rfl rfl (by omega)) ?_
    refine To.m (To.nil (To.thenN ?_))
    refine To.sub [(1, .pointer (some ⟨b1, 0, none⟩)), (2, .pointer (some ⟨b2, 0, none⟩)), (3, .pointer (some ⟨b3, 0, none⟩)), (18, .slice A l.length q), (19, .int .i64 ((l.length : Nat) : Int)), (20, .int .i64 (((i + 1) : Nat) : Int))] ⟨rfl, rfl, rfl, rfl, rfl, rfl, trivial⟩ ?_
    refine To.only [3, 3, 3, 3, 3] rfl ?_
    refine To.again (l.length - (i + 1)) (by omega) ⟨A142_10, q142_10, (O ++ [(⟨x.f % 36, x.v.tmod 6, 0, 0⟩ : Ins)]), i + 1, rfl, rfl, rfl, (by omega), (by omega), (by rw [List.length_append]; simp only [List.length_cons, List.length_nil]; omega), (fun y hy => by
      rcases List.mem_append.1 hy with h0 | h0
      · exact hO y h0
      · rw [List.mem_singleton.1 h0]; show x.f % 36 < 256; omega)⟩
   refine To.f fl61_0 ?_
   refine To.lo 0 c3 ?_
   refine To.r (Rd.geq rfl rfl rfl) ?_
   refine To.rdP rfl rfl rfl (Rd.move rfl rfl) (fun g120 => ?_) (fun g120 => ?_)
   ·
    refine To.f fl61_0 ?_
    refine To.lo 0 c3 ?_
    refine To.r (Rd.leq rfl rfl rfl) ?_
    refine To.r (Rd.pickT rfl rfl rfl) ?_
    refine To.r (Rd.pickF rfl rfl rfl) ?_
    refine To.rdP rfl rfl rfl (Rd.move rfl rfl) (fun g126 => ?_) (fun g126 => ?_)
    ·
     refine To.k ?_
     refine To.k ?_
     refine To.k ?_
     refine To.k ?_
     refine To.k ?_
     refine To.k ?_
     refine To.k ?_
     refine To.k ?_
     refine To.r (Rd.pickT rfl rfl rfl) ?_
     refine To.a (To.nil ?_)
     refine To.sub [(1, .pointer (some ⟨b1, 0, none⟩)), (2, .pointer (some ⟨b2, 0, none⟩)), (3, .pointer (some ⟨b3, 0, none⟩)), (18, .slice A l.length q), (19, .int .i64 ((l.length : Nat) : Int)), (20, .int .i64 ((i : Nat) : Int)), (21, .bool (decide (((i : Nat) : Int) < ((l.length : Nat) : Int)))), (5, .pointer (some ⟨b5, 0, none⟩)), (4, .int .i64 ((i : Nat) : Int)), (26, .bool (decide (((i : Nat) : Int) = 30))), (6, .pointer (some ⟨b6, 0, none⟩)), (7, .int .i64 (x.v.tmod 6)), (36, .bool (decide (((x.f % 36 : Nat) : Int) = 1))), (44, .bool (decide (((x.f % 36 : Nat) : Int) = 28))), (58, .bool (decide (((x.f % 36 : Nat) : Int) = 30))), (71, .bool (decide (((x.f % 36 : Nat) : Int) = 31))), (82, .bool (decide (((x.f % 36 : Nat) : Int) = 32))), (91, .bool (decide (((x.f % 36 : Nat) : Int) = 33))), (102, .bool true)] ⟨rfl, rfl, rfl, rfl, rfl, rfl, rfl, rfl, rfl, rfl, rfl, rfl, rfl, rfl, rfl, rfl, rfl, rfl, rfl, trivial⟩ ?_
     refine To.thenN ?_
     refine To.condT rfl ?_
     refine To.reg (To.m ?_)
     refine To.f fl61_1 ?_
     refine To.u (Up.store (i := 0) rfl rfl rfl c3 rfl rfl (box_takes1 rfl)) ?_
     refine To.nil (To.blockN (To.thenN (To.reg ?_)))
     refine To.f fl28_2 ?_
     refine To.lo 4 c26 ?_
     refine To.r (Rd.loadS (i := 0) rfl rfl r61 rfl box_whole rfl) ?_
     refine To.mk rfl rfl rfl (Mk.sliceN (us := [.int .i64 ((x.f % 36 : Nat) : Int), .int .i64 (x.v.tmod 6), .int .i64 0, .int .i64 0]) rfl s26 rfl rfl rfl rfl rfl rfl) ?_
     rintro _ _ ⟨b141_11, rfl, rfl⟩
     refine To.ge rfl rfl rfl (Ge.append1 encRi (i := 7) (j := 0) (el := (⟨x.f % 36, x.v.tmod 6, 0, 0⟩ : Ins)) rfl s26 rfl rfl rfl rfl rfl (by first | omega | (simp only [List.length_append, List.length_cons, List.length_nil]; omega)) (by first | omega | (simp only [List.length_append, List.length_cons, List.length_nil]; omega))) ?_
     rintro _ _ ⟨A142_11, q142_11, rfl, rfl⟩
     refine To.f fl28_2 ?_
     refine To.u (Up.store (i := 5) rfl rfl rfl c26 rfl rfl (box_takes1 rfl)) ?_
     refine To.nil (To.blockN (To.thenN (To.reg ?_)))
     refine To.r (Rd.inc rfl rfl rfl (by omega)) ?_
     refine To.m (To.nil (To.thenN ?_))
     refine To.sub [(1, .pointer (some ⟨b1, 0, none⟩)), (2, .pointer (some ⟨b2, 0, none⟩)), (3, .pointer (some ⟨b3, 0, none⟩)), (18, .slice A l.length q), (19, .int .i64 ((l.length : Nat) : Int)), (20, .int .i64 (((i + 1) : Nat) : Int))] ⟨rfl, rfl, rfl, rfl, rfl, rfl, trivial⟩ ?_
     refine To.only [3, 3, 3, 3, 3] rfl ?_
     refine To.again (l.length - (i + 1)) (by omega) ⟨A142_11, q142_11, (O ++ [(⟨x.f % 36, x.v.tmod 6, 0, 0⟩ : Ins)]), i + 1, rfl, rfl, rfl, (by omega), (by omega), (by rw [List.length_append]; simp only [List.length_cons, List.length_nil]; omega), (fun y hy => by
       rcases List.mem_append.1 hy with h0 | h0
       · exact hO y h0
       · rw [List.mem_singleton.1 h0]; show x.f % 36 < 256; omega)⟩
    refine To.f fl61_0 ?_
    refine To.lo 0 c3 ?_
    refine To.r (Rd.geq rfl rfl rfl) ?_
    refine To.rdP rfl rfl rfl (Rd.move rfl rfl) (fun g130 => ?_) (fun g130 => ?_)
    ·
     refine To.f fl61_0 ?_
     refine To.lo 0 c3 ?_
     refine To.r (Rd.leq rfl rfl rfl) ?_
     refine To.r (Rd.pickT rfl rfl rfl) ?_
     refine To.r (Rd.pickF rfl rfl rfl) ?_
     refine To.a (To.nil ?_)
     refine To.sub [(1, .pointer (some ⟨b1, 0, none⟩)), (2, .pointer (some ⟨b2, 0, none⟩)), (3, .pointer (some ⟨b3, 0, none⟩)), (18, .slice A l.length q), (19, .int .i64 ((l.length : Nat) : Int)), (20, .int .i64 ((i : Nat) : Int)), (21, .bool (decide (((i : Nat) : Int) < ((l.length : Nat) : Int)))), (5, .pointer (some ⟨b5, 0, none⟩)), (4, .int .i64 ((i : Nat) : Int)), (26, .bool (decide (((i : Nat) : Int) = 30))), (6, .pointer (some ⟨b6, 0, none⟩)), (7, .int .i64 (x.v.tmod 6)), (36, .bool (decide (((x.f % 36 : Nat) : Int) = 1))), (44, .bool (decide (((x.f % 36 : Nat) : Int) = 28))), (58, .bool (decide (((x.f % 36 : Nat) : Int) = 30))), (71, .bool (decide (((x.f % 36 : Nat) : Int) = 31))), (82, .bool (decide (((x.f % 36 : Nat) : Int) = 32))), (91, .bool (decide (((x.f % 36 : Nat) : Int) = 33))), (102, .bool (decide (((x.f % 36 : Nat) : Int) ≤ 26)))] ⟨rfl, rfl, rfl, rfl, rfl, rfl, rfl, rfl, rfl, rfl, rfl, rfl, rfl, rfl, rfl, rfl, rfl, rfl, rfl, trivial⟩ ?_
     refine To.thenN ?_
     refine To.condP rfl (fun k102 => ?_) (fun k102 => ?_)
     ·
      refine To.reg (To.m ?_)
      refine To.f fl61_1 ?_
      refine To.u (Up.store (i := 0) rfl rfl rfl c3 rfl rfl (box_takes1 rfl)) ?_
      refine To.nil (To.blockN (To.thenN (To.reg ?_)))
      refine To.f fl28_2 ?_
      refine To.lo 4 c26 ?_
      refine To.r (Rd.loadS (i := 0) rfl rfl r61 rfl box_whole rfl) ?_
      refine To.mk rfl rfl rfl (Mk.sliceN (us := [.int .i64 ((x.f % 36 : Nat) : Int), .int .i64 (x.v.tmod 6), .int .i64 0, .int .i64 0]) rfl s26 rfl rfl rfl rfl rfl rfl) ?_
      rintro _ _ ⟨b141_12, rfl, rfl⟩
      refine To.ge rfl rfl rfl (Ge.append1 encRi (i := 7) (j := 0) (el := (⟨x.f % 36, x.v.tmod 6, 0, 0⟩ : Ins)) rfl s26 rfl rfl rfl rfl rfl (by first | omega | (simp only [List.length_append, List.length_cons, List.length_nil]; omega)) (by first | omega | (simp only [List.length_append, List.length_cons, List.length_nil]; omega))) ?_
      rintro _ _ ⟨A142_12, q142_12, rfl, rfl⟩
      refine To.f fl28_2 ?_
      refine To.u (Up.store (i := 5) rfl rfl rfl c26 rfl rfl (box_takes1 rfl)) ?_
      refine To.nil (To.blockN (To.thenN (To.reg ?_)))
      refine To.r (Rd.inc rfl rfl rfl (by omega)) ?_
      refine To.m (To.nil (To.thenN ?_))
      refine To.sub [(1, .pointer (some ⟨b1, 0, none⟩)), (2, .pointer (some ⟨b2, 0, none⟩)), (3, .pointer (some ⟨b3, 0, none⟩)), (18, .slice A l.length q), (19, .int .i64 ((l.length : Nat) : Int)), (20, .int .i64 (((i + 1) : Nat) : Int))] ⟨rfl, rfl, rfl, rfl, rfl, rfl, trivial⟩ ?_
      refine To.only [3, 3, 3, 3, 3] rfl ?_
      refine To.again (l.length - (i + 1)) (by omega) ⟨A142_12, q142_12, (O ++ [(⟨x.f % 36, x.v.tmod 6, 0, 0⟩ : Ins)]), i + 1, rfl, rfl, rfl, (by omega), (by omega), (by rw [List.length_append]; simp only [List.length_cons, List.length_nil]; omega), (fun y hy => by
        rcases List.mem_append.1 hy with h0 | h0
        · exact hO y h0
        · rw [List.mem_singleton.1 h0]; show x.f % 36 < 256; omega)⟩
     refine To.skip (To.blockN (To.thenN (To.reg ?_)))
     refine To.f fl28_2 ?_
     refine To.lo 4 c26 ?_
     refine To.r (Rd.loadS (i := 0) rfl rfl r61 rfl box_whole rfl) ?_
     refine To.mk rfl rfl rfl (Mk.sliceN (us := [.int .i64 ((x.f % 36 : Nat) : Int), .int .i64 0, .int .i64 0, .int .i64 0]) rfl s26 rfl rfl rfl rfl rfl rfl) ?_
     rintro _ _ ⟨b141_13, rfl, rfl⟩
     refine To.ge rfl rfl rfl (Ge.append1 encRi (i := 7) (j := 0) (el := (⟨x.f % 36, 0, 0, 0⟩ : Ins)) rfl s26 rfl rfl rfl rfl rfl (by first | omega | (simp only [List.length_append, List.length_cons, List.length_nil]; omega)) (by first | omega | (simp only [List.length_append, List.length_cons, List.length_nil]; omega))) ?_
     rintro _ _ ⟨A142_13, q142_13, rfl, rfl⟩
     refine To.f fl28_2 ?_
     refine To.u (Up.store (i := 5) rfl rfl rfl c26 rfl rfl (box_takes1 rfl)) ?_
     refine To.nil (To.blockN (To.thenN (To.reg ?_)))
     refine To.r (Rd.inc rfl rfl rfl (by omega)) ?_
     refine To.m (To.nil (To.thenN ?_))
     refine To.sub [(1, .pointer (some ⟨b1, 0, none⟩)), (2, .pointer (some ⟨b2, 0, none⟩)), (3, .pointer (some ⟨b3, 0, none⟩)), (18, .slice A l.length q), (19, .int .i64 ((l.length : Nat) : Int)), (20, .int .i64 (((i + 1) : Nat) : Int))] ⟨rfl, rfl, rfl, rfl, rfl, rfl, trivial⟩ ?_
     refine To.only [3, 3, 3, 3, 3] rfl ?_
     refine To.again (l.length - (i + 1)) (by omega) ⟨A142_13, q142_13, (O ++ [(⟨x.f % 36, 0, 0, 0⟩ : Ins)]), i + 1, rfl, rfl, rfl, (by omega), (by omega), (by rw [List.length_append]; simp only [List.length_cons, List.length_nil]; omega), (fun y hy => by
       rcases List.mem_append.1 hy with h0 | h0
       · exact hO y h0
       · rw [List.mem_singleton.1 h0]; show x.f % 36 < 256; omega)⟩
    refine To.k ?_
    refine To.k ?_
    refine To.k ?_
    refine To.r (Rd.pickF rfl rfl rfl) ?_
    refine To.r (Rd.pickF rfl rfl rfl) ?_
    refine To.a (To.nil ?_)
    refine To.sub [(1, .pointer (some ⟨b1, 0, none⟩)), (2, .pointer (some ⟨b2, 0, none⟩)), (3, .pointer (some ⟨b3, 0, none⟩)), (18, .slice A l.length q), (19, .int .i64 ((l.length : Nat) : Int)), (20, .int .i64 ((i : Nat) : Int)), (21, .bool (decide (((i : Nat) : Int) < ((l.length : Nat) : Int)))), (5, .pointer (some ⟨b5, 0, none⟩)), (4, .int .i64 ((i : Nat) : Int)), (26, .bool (decide (((i : Nat) : Int) = 30))), (6, .pointer (some ⟨b6, 0, none⟩)), (7, .int .i64 (x.v.tmod 6)), (36, .bool (decide (((x.f % 36 : Nat) : Int) = 1))), (44, .bool (decide (((x.f % 36 : Nat) : Int) = 28))), (58, .bool (decide (((x.f % 36 : Nat) : Int) = 30))), (71, .bool (decide (((x.f % 36 : Nat) : Int) = 31))), (82, .bool (decide (((x.f % 36 : Nat) : Int) = 32))), (91, .bool (decide (((x.f % 36 : Nat) : Int) = 33))), (102, .bool false)] ⟨rfl, rfl, rfl, rfl, rfl, rfl, rfl, rfl, rfl, rfl, rfl, rfl, rfl, rfl, rfl, rfl, rfl, rfl, rfl, trivial⟩ ?_
    refine To.thenN ?_
    refine To.condF rfl ?_
    refine To.skip (To.blockN (To.thenN (To.reg ?_)))
    refine To.f fl28_2 ?_
    refine To.lo 4 c26 ?_
    refine To.r (Rd.loadS (i := 0) rfl rfl r61 rfl box_whole rfl) ?_
    refine To.mk rfl rfl rfl (Mk.sliceN (us := [.int .i64 ((x.f % 36 : Nat) : Int), .int .i64 0, .int .i64 0, .int .i64 0]) rfl s26 rfl rfl rfl rfl rfl rfl) ?_
    rintro _ _ ⟨b141_14, rfl, rfl⟩
    refine To.ge rfl rfl rfl (Ge.append1 encRi (i := 7) (j := 0) (el := (⟨x.f % 36, 0, 0, 0⟩ : Ins)) rfl s26 rfl rfl rfl rfl rfl (by first | omega | (simp only [List.length_append, List.length_cons, List.length_nil]; omega)) (by first | omega | (simp only [List.length_append, List.length_cons, List.length_nil]; omega))) ?_
    rintro _ _ ⟨A142_14, q142_14, rfl, rfl⟩
    refine To.f fl28_2 ?_
    refine To.u (Up.store (i := 5) rfl rfl rfl c26 rfl rfl (box_takes1 rfl)) ?_
    refine To.nil (To.blockN (To.thenN (To.reg ?_)))
    refine To.r (Rd.inc rfl rfl rfl (by omega)) ?_
    refine To.m (To.nil (To.thenN ?_))
    refine To.sub [(1, .pointer (some ⟨b1, 0, none⟩)), (2, .pointer (some ⟨b2, 0, none⟩)), (3, .pointer (some ⟨b3, 0, none⟩)), (18, .slice A l.length q), (19, .int .i64 ((l.length : Nat) : Int)), (20, .int .i64 (((i + 1) : Nat) : Int))] ⟨rfl, rfl, rfl, rfl, rfl, rfl, trivial⟩ ?_
    refine To.only [3, 3, 3, 3, 3] rfl ?_
    refine To.again (l.length - (i + 1)) (by omega) ⟨A142_14, q142_14, (O ++ [(⟨x.f % 36, 0, 0, 0⟩ : Ins)]), i + 1, rfl, rfl, rfl, (by omega), (by omega), (by rw [List.length_append]; simp only [List.length_cons, List.length_nil]; omega), (fun y hy => by
      rcases List.mem_append.1 hy with h0 | h0
      · exact hO y h0
      · rw [List.mem_singleton.1 h0]; show x.f % 36 < 256; omega)⟩
   refine To.k ?_
   refine To.k ?_
   refine To.k ?_
   refine To.r (Rd.pickF rfl rfl rfl) ?_
   refine To.r (Rd.pickF rfl rfl rfl) ?_
   refine To.m ?_
   refine To.f fl61_0 ?_
   refine To.lo 0 c3 ?_
   refine To.r (Rd.geq rfl rfl rfl) ?_
   refine To.rdP rfl rfl rfl (Rd.move rfl rfl) (fun g130 => ?_) (fun g130 => ?_)
   ·
    refine To.f fl61_0 ?_
    refine To.lo 0 c3 ?_
    refine To.r (Rd.leq rfl rfl rfl) ?_
    refine To.r (Rd.pickT rfl rfl rfl) ?_
    refine To.r (Rd.pickF rfl rfl rfl) ?_
    refine To.a (To.nil ?_)
    refine To.sub [(1, .pointer (some ⟨b1, 0, none⟩)), (2, .pointer (some ⟨b2, 0, none⟩)), (3, .pointer (some ⟨b3, 0, none⟩)), (18, .slice A l.length q), (19, .int .i64 ((l.length : Nat) : Int)), (20, .int .i64 ((i : Nat) : Int)), (21, .bool (decide (((i : Nat) : Int) < ((l.length : Nat) : Int)))), (5, .pointer (some ⟨b5, 0, none⟩)), (4, .int .i64 ((i : Nat) : Int)), (26, .bool (decide (((i : Nat) : Int) = 30))), (6, .pointer (some ⟨b6, 0, none⟩)), (7, .int .i64 (x.v.tmod 6)), (36, .bool (decide (((x.f % 36 : Nat) : Int) = 1))), (44, .bool (decide (((x.f % 36 : Nat) : Int) = 28))), (58, .bool (decide (((x.f % 36 : Nat) : Int) = 30))), (71, .bool (decide (((x.f % 36 : Nat) : Int) = 31))), (82, .bool (decide (((x.f % 36 : Nat) : Int) = 32))), (91, .bool (decide (((x.f % 36 : Nat) : Int) = 33))), (102, .bool (decide (((x.f % 36 : Nat) : Int) ≤ 26)))] ⟨rfl, rfl, rfl, rfl, rfl, rfl, rfl, rfl, rfl, rfl, rfl, rfl, rfl, rfl, rfl, rfl, rfl, rfl, rfl, trivial⟩ ?_
    refine To.thenN ?_
    refine To.condP rfl (fun k102 => ?_) (fun k102 => ?_)
    ·
     refine To.reg (To.m ?_)
     refine To.f fl61_1 ?_
     refine To.u (Up.store (i := 0) rfl rfl rfl c3 rfl rfl (box_takes1 rfl)) ?_
     refine To.nil (To.blockN (To.thenN (To.reg ?_)))
     refine To.f fl28_2 ?_
     refine To.lo 4 c26 ?_
     refine To.r (Rd.loadS (i := 0) rfl rfl r61 rfl box_whole rfl) ?_
     refine To.mk rfl rfl rfl (Mk.sliceN (us := [.int .i64 ((x.f % 36 : Nat) : Int), .int .i64 (x.v.tmod 6), .int .i64 0, .int .i64 0]) rfl s26 rfl rfl rfl rfl rfl rfl) ?_
     rintro _ _ ⟨b141_15, rfl, rfl⟩
     refine To.ge rfl rfl rfl (Ge.append1 encRi (i := 7) (j := 0) (el := (⟨x.f % 36, x.v.tmod 6, 0, 0⟩ : Ins)) rfl s26 rfl rfl rfl rfl rfl (by first | omega | (simp only [List.length_append, List.length_cons, List.length_nil]; omega)) (by first | omega | (simp only [List.length_append, List.length_cons, List.length_nil]; omega))) ?_
     rintro _ _ ⟨A142_15, q142_15, rfl, rfl⟩
     refine To.f fl28_2 ?_
     refine To.u (Up.store (i := 5) rfl rfl rfl c26 rfl rfl (box_takes1 rfl)) ?_
     refine To.nil (To.blockN (To.thenN (To.reg ?_)))
     refine To.r (Rd.inc rfl rfl rfl (by omega)) ?_
     refine To.m (To.nil (To.thenN ?_))
     refine To.sub [(1, .pointer (some ⟨b1, 0, none⟩)), (2, .pointer (some ⟨b2, 0, none⟩)), (3, .pointer (some ⟨b3, 0, none⟩)), (18, .slice A l.length q), (19, .int .i64 ((l.length : Nat) : Int)), (20, .int .i64 (((i + 1) : Nat) : Int))] ⟨rfl, rfl, rfl, rfl, rfl, rfl, trivial⟩ ?_
     refine To.only [3, 3, 3, 3, 3] rfl ?_
     refine To.again (l.length - (i + 1)) (by omega) ⟨A142_15, q142_15, (O ++ [(⟨x.f % 36, x.v.tmod 6, 0, 0⟩ : Ins)]), i + 1, rfl, rfl, rfl, (by omega), (by omega), (by rw [List.length_append]; simp only [List.length_cons, List.length_nil]; omega), (fun y hy => by
       rcases List.mem_append.1 hy with h0 | h0
       · exact hO y h0
       · rw [List.mem_singleton.1 h0]; show x.f % 36 < 256; omega)⟩
    refine To.skip (To.blockN (To.thenN (To.reg ?_)))
    refine To.f fl28_2 ?_
    refine To.lo 4 c26 ?_
    refine To.r (Rd.loadS (i := 0) rfl rfl r61 rfl box_whole rfl) ?_
    refine To.mk rfl rfl rfl (Mk.sliceN (us := [.int .i64 ((x.f % 36 : Nat) : Int), .int .i64 0, .int .i64 0, .int .i64 0]) rfl s26 rfl rfl rfl rfl rfl rfl) ?_
    rintro _ _ ⟨b141_16, rfl, rfl⟩
    refine To.ge rfl rfl rfl (Ge.append1 encRi (i := 7) (j := 0) (el := (⟨x.f % 36, 0, 0, 0⟩ : Ins)) rfl s26 rfl rfl rfl rfl rfl (by first | omega | (simp only [List.length_append, List.length_cons, List.length_nil]; omega)) (by first | omega | (simp only [List.length_append, List.length_cons, List.length_nil]; omega))) ?_
    rintro _ _ ⟨A142_16, q142_16, rfl, rfl⟩
    refine To.f fl28_2 ?_
    refine To.u (Up.store (i := 5) rfl rfl rfl c26 rfl rfl (box_takes1 rfl)) ?_
    refine To.nil (To.blockN (To.thenN (To.reg ?_)))
    refine To.r (Rd.inc rfl rfl rfl (by omega)) ?_
    refine To.m (To.nil (To.thenN ?_))
    refine To.sub [(1, .pointer (some ⟨b1, 0, none⟩)), (2, .pointer (some ⟨b2, 0, none⟩)), (3, .pointer (some ⟨b3, 0, none⟩)), (18, .slice A l.length q), (19, .int .i64 ((l.length : Nat) : Int)), (20, .int .i64 (((i + 1) : Nat) : Int))] ⟨rfl, rfl, rfl, rfl, rfl, rfl, trivial⟩ ?_
    refine To.only [3, 3, 3, 3, 3] rfl ?_
    refine To.again (l.length - (i + 1)) (by omega) ⟨A142_16, q142_16, (O ++ [(⟨x.f % 36, 0, 0, 0⟩ : Ins)]), i + 1, rfl, rfl, rfl, (by omega), (by omega), (by rw [List.length_append]; simp only [List.length_cons, List.length_nil]; omega), (fun y hy => by
      rcases List.mem_append.1 hy with h0 | h0
      · exact hO y h0
      · rw [List.mem_singleton.1 h0]; show x.f % 36 < 256; omega)⟩
   refine To.k ?_
   refine To.k ?_
   refine To.k ?_
   refine To.r (Rd.pickF rfl rfl rfl) ?_
   refine To.r (Rd.pickF rfl rfl rfl) ?_
   refine To.a (To.nil ?_)
   refine To.sub [(1, .pointer (some ⟨b1, 0, none⟩)), (2, .pointer (some ⟨b2, 0, none⟩)), (3, .pointer (some ⟨b3, 0, none⟩)), (18, .slice A l.length q), (19, .int .i64 ((l.length : Nat) : Int)), (20, .int .i64 ((i : Nat) : Int)), (21, .bool (decide (((i : Nat) : Int) < ((l.length : Nat) : Int)))), (5, .pointer (some ⟨b5, 0, none⟩)), (4, .int .i64 ((i : Nat) : Int)), (26, .bool (decide (((i : Nat) : Int) = 30))), (6, .pointer (some ⟨b6, 0, none⟩)), (7, .int .i64 (x.v.tmod 6)), (36, .bool (decide (((x.f % 36 : Nat) : Int) = 1))), (44, .bool (decide (((x.f % 36 : Nat) : Int) = 28))), (58, .bool (decide (((x.f % 36 : Nat) : Int) = 30))), (71, .bool (decide (((x.f % 36 : Nat) : Int) = 31))), (82, .bool (decide (((x.f % 36 : Nat) : Int) = 32))), (91, .bool (decide (((x.f % 36 : Nat) : Int) = 33))), (102, .bool false)] ⟨rfl, rfl, rfl, rfl, rfl, rfl, rfl, rfl, rfl, rfl, rfl, rfl, rfl, rfl, rfl, rfl, rfl, rfl, rfl, trivial⟩ ?_
   refine To.thenN ?_
   refine To.condF rfl ?_
   refine To.skip (To.blockN (To.thenN (To.reg ?_)))
   refine To.f fl28_2 ?_
   refine To.lo 4 c26 ?_
   refine To.r (Rd.loadS (i := 0) rfl rfl r61 rfl box_whole rfl) ?_
   refine To.mk rfl rfl rfl (Mk.sliceN (us := [.int .i64 ((x.f % 36 : Nat) : Int), .int .i64 0, .int .i64 0, .int .i64 0]) rfl s26 rfl rfl rfl rfl rfl rfl) ?_
   rintro _ _ ⟨b141_17, rfl, rfl⟩
   refine To.ge rfl rfl rfl (Ge.append1 encRi (i := 7) (j := 0) (el := (⟨x.f % 36, 0, 0, 0⟩ : Ins)) rfl s26 rfl rfl rfl rfl rfl (by first | omega | (simp only [List.length_append, List.length_cons, List.length_nil]; omega)) (by first | omega | (simp only [List.length_append, List.length_cons, List.length_nil]; omega))) ?_
   rintro _ _ ⟨A142_17, q142_17, rfl, rfl⟩
   refine To.f fl28_2 ?_
   refine To.u (Up.store (i := 5) rfl rfl rfl c26 rfl rfl (box_takes1 rfl)) ?_
   refine To.nil (To.blockN (To.thenN (To.reg ?_)))
   refine To.r (Rd.inc rfl rfl rfl (by omega)) ?_
   refine To.m (To.nil (To.thenN ?_))
   refine To.sub [(1, .pointer (some ⟨b1, 0, none⟩)), (2, .pointer (some ⟨b2, 0, none⟩)), (3, .pointer (some ⟨b3, 0, none⟩)), (18, .slice A l.length q), (19, .int .i64 ((l.length : Nat) : Int)), (20, .int .i64 (((i + 1) : Nat) : Int))] ⟨rfl, rfl, rfl, rfl, rfl, rfl, trivial⟩ ?_
   refine To.only [3, 3, 3, 3, 3] rfl ?_
   refine To.again (l.length - (i + 1)) (by omega) ⟨A142_17, q142_17, (O ++ [(⟨x.f % 36, 0, 0, 0⟩ : Ins)]), i + 1, rfl, rfl, rfl, (by omega), (by omega), (by rw [List.length_append]; simp only [List.length_cons, List.length_nil]; omega), (fun y hy => by
     rcases List.mem_append.1 hy with h0 | h0
     · exact hO y h0
     · rw [List.mem_singleton.1 h0]; show x.f % 36 < 256; omega)⟩
  refine To.exit (To.thenX (To.thenX (To.blockX (To.thenN (To.seq (To.reg ?_))))))
  refine To.r (Rd.loadS (i := 2) rfl rfl r28 rfl box_whole rfl) ?_
  refine To.u (Up.storeS (i := 1) rfl rfl rfl r28 rfl rfl rfl (box_takesAll rfl)) ?_
  refine To.nil (To.thenN (To.ret ?_))
  refine To.endC [4] rfl (.inl rfl) Tryz.results6 rfl (i := 1) rfl r28 rfl ?_
  exact ⟨O, _, _, rfl, rfl, by omega, hO⟩
set_option maxHeartbeats 2000000 in
set_option maxRecDepth 100000 in
theorem back_fn (pr st : Int) (A : Option Addr) (q : Nat) (l : List Ins) (hl : l.length ≤ 1000000) (hop : ∀ x ∈ l, x.op < 256) :
    Does Tryz.prog 7 [.agg #[.int .i64 pr, .int .i64 st, .slice A l.length q]] [ros Ins.rcells A l] (fun v Γ' => ∃ (B : Option Addr) (q' : Nat), v = .agg #[.int .i64 pr, .int .i64 st, .slice B l.length q'] ∧ Γ' = [rows Ins.cells 64 4 B q' l]) := by
  refine Does.enter Tryz.func7 rfl Tryz.ntmps7 rfl (fun w0 => ?_)
  refine To.seq (To.reg ?_)
  refine To.boxed rfl rfl rfl rfl rfl rfl (fun b1 => ?_)
  refine To.alloc rfl rfl rfl rfl z32 (fun b2 => ?_)
  refine To.nil (To.thenN (To.seq (To.reg ?_)))
  refine To.f fl28_0 ?_
  refine To.lo 1 c3 ?_
  refine To.f fl28_1 ?_
  refine To.lo 1 c3 ?_
  refine To.r (Rd.build (vs := [(0, .int .i64 pr), (1, .int .i64 st)]) (cells := [.int .i64 pr, .int .i64 st, .slice none 0 0]) rfl rfl rfl (by kernel_rfl)) ?_
  refine To.alloc rfl rfl rfl rfl z32 (fun b3 => ?_)
  refine To.u (Up.storeS (i := 0) rfl rfl rfl r32 rfl rfl rfl (box_takesAll rfl)) ?_
  refine To.nil (To.thenN (To.seq (To.seq (To.reg ?_))))
  refine To.f fl28_2 ?_
  refine To.lo 2 c26 ?_
  refine To.r (Rd.len rfl rfl Tryz.underlying26) ?_
  refine To.m (To.nil (To.thenN (To.block ?_)))
  refine To.nilRow (Ins.cells) 64 4 ?_
  refine To.sub [(1, .pointer (some ⟨b1, 0, none⟩)), (2, .pointer (some ⟨b2, 0, none⟩)), (3, .pointer (some ⟨b3, 0, none⟩)), (12, .slice A l.length q), (13, .int .i64 ((l.length : Nat) : Int)), (14, .int .i64 ((0 : Nat) : Int))] ⟨rfl, rfl, rfl, rfl, rfl, rfl, trivial⟩ ?_
  refine To.only [3, 2, 1, 1, 0] rfl ?_
  refine To.loop (fun mz ρ Γ => ∃ (Ao : Option Addr) (qo : Nat) (O : List Ins) (i : Nat), ρ = [(1, .pointer (some ⟨b1, 0, none⟩)), (2, .pointer (some ⟨b2, 0, none⟩)), (3, .pointer (some ⟨b3, 0, none⟩)), (12, .slice A l.length q), (13, .int .i64 ((l.length : Nat) : Int)), (14, .int .i64 ((i : Nat) : Int))] ∧ Γ = [box b1 [.int .i64 pr, .int .i64 st, .slice A l.length q] 28, box b2 [.int .i64 0, .int .i64 0, .slice none 0 0] 32, box b3 [.int .i64 pr, .int .i64 st, .slice Ao O.length qo] 32, ros Ins.rcells A l, rows Ins.cells 64 4 Ao qo O] ∧ mz = l.length - i ∧ (i ≤ l.length) ∧ (O = l.take i)) (l.length - 0) ⟨none, 0, ([] : List Ins), 0, rfl, rfl, rfl, (Nat.zero_le _), rfl⟩ ?_
  rintro mz _ _ ⟨Ao, qo, O, i, rfl, rfl, rfl, hi, hO⟩
  have hOl : O.length ≤ l.length := by rw [hO, List.length_take]; omega
  refine To.seq (To.reg ?_)
  refine To.r (Rd.lss rfl rfl rfl) ?_
  refine To.nil (To.thenN (To.seq ?_))
  refine To.condP rfl (fun k15 => ?_) (fun k15 => ?_)
  ·
   obtain ⟨x, hx⟩ : ∃ z0, l[i]? = some z0 := ⟨l[i]'(by omega), List.getElem?_eq_getElem _⟩
   have hop2 := hop x (List.mem_of_getElem? hx)
   refine To.skip (To.thenN (To.seq (To.block (To.seq (To.reg ?_)))))
   refine To.r (Rd.indexRos encRi (i := 3) (j := i) rfl rfl rfl s26 rfl hx) ?_
   refine To.r (Rd.loadS (i := 3) rfl rfl r61 rfl (ros_gives encRi hx) (encRi.len _)) ?_
   refine To.alloc rfl rfl rfl rfl z61 (fun b5 => ?_)
   refine To.u (Up.storeS (i := 0) rfl rfl rfl r61 rfl rfl rfl (box_takesAll rfl)) ?_
   refine To.nil (To.thenN (To.reg ?_))
   refine To.f fl32_2 ?_
   refine To.lo 3 c30 ?_
   refine To.f fl61_0 ?_
   refine To.lo 0 c3 ?_
   refine To.r (Rd.conv rfl rfl Tryz.underlying3 Tryz.underlying62 (IntWalk.u8_in _ (by omega))) ?_
   refine To.f fl61_1 ?_
   refine To.lo 0 c3 ?_
   refine To.f fl61_2 ?_
   refine To.lo 0 c3 ?_
   refine To.f fl61_3 ?_
   refine To.lo 0 c2 ?_
   refine To.r (Rd.build (vs := [(0, .int .u8 ((x.op : Nat) : Int)), (1, .int .i64 x.a), (2, .int .i64 x.b), (3, .int .i64 x.n)]) (cells := [.int .u8 ((x.op : Nat) : Int), .int .i64 x.a, .int .i64 x.b, .int .i64 x.n]) rfl rfl rfl (by kernel_rfl)) ?_
   refine To.mk rfl rfl rfl (Mk.sliceN (us := [.int .u8 ((x.op : Nat) : Int), .int .i64 x.a, .int .i64 x.b, .int .i64 x.n]) rfl s30 rfl rfl rfl rfl rfl rfl) ?_
   rintro _ _ ⟨b30, rfl, rfl⟩
   refine To.ge rfl rfl rfl (Ge.append1 encIn (i := 6) (j := 0) (el := x) rfl s30 rfl rfl rfl rfl rfl (by first | omega | (simp only [List.length_append, List.length_cons, List.length_nil]; omega)) (by first | omega | (simp only [List.length_append, List.length_cons, List.length_nil]; omega))) ?_
   rintro _ _ ⟨A31, q31, rfl, rfl⟩
   refine To.f fl32_2 ?_
   refine To.u (Up.store (i := 4) rfl rfl rfl c30 rfl rfl (box_takes1 rfl)) ?_
   refine To.nil (To.blockN (To.thenN (To.reg ?_)))
   refine To.r (Rd.inc rfl rfl rfl (by omega)) ?_
   refine To.m (To.nil (To.thenN ?_))
   refine To.sub [(1, .pointer (some ⟨b1, 0, none⟩)), (2, .pointer (some ⟨b2, 0, none⟩)), (3, .pointer (some ⟨b3, 0, none⟩)), (12, .slice A l.length q), (13, .int .i64 ((l.length : Nat) : Int)), (14, .int .i64 (((i + 1) : Nat) : Int))] ⟨rfl, rfl, rfl, rfl, rfl, rfl, trivial⟩ ?_
   refine To.only [2, 2, 2, 2, 2] rfl ?_
   refine To.again (l.length - (i + 1)) (by omega) ⟨A31, q31, (O ++ [x]), i + 1, rfl, rfl, rfl, (by omega), (by rw [take_of_get hx, hO])⟩
  refine To.exit (To.thenX (To.thenX (To.blockX (To.thenN (To.seq (To.reg ?_))))))
  refine To.r (Rd.loadS (i := 2) rfl rfl r32 rfl box_whole rfl) ?_
  refine To.u (Up.storeS (i := 1) rfl rfl rfl r32 rfl rfl rfl (box_takesAll rfl)) ?_
  refine To.nil (To.thenN (To.ret ?_))
  refine To.endC [4] rfl (.inl rfl) Tryz.results7 rfl (i := 1) rfl r32 rfl ?_
  rw [show l.take i = l from List.take_of_length_le (by omega)] at hO
  exact ⟨_, _, by rw [hO], by rw [hO]⟩
end Go.Proofs.YtfkmjkooemjekaaGreatDoor

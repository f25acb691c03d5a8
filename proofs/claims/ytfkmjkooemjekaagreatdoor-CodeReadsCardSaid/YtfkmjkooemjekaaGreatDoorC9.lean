/- A raw unit, and a unit as the program has it. Own text (walks printed by sx.py). -/
import Derived.Test.YtfkmjkooemjekaaGreatDoorL1
import Derived.Test.YtfkmjkooemjekaaGreatDoorC8
set_option linter.unusedVariables false
set_option linter.unusedSimpArgs false
namespace Go.Proofs.YtfkmjkooemjekaaGreatDoor
open Go.RowKit Go.Flow Go.Mem Go.Sep
structure Sp where
  t : Nat
  f : Nat
  v : Int
def Sp.cells (e : Sp) : List Value := [.int .u8 ((e.t : Nat) : Int), .int .u8 ((e.f : Nat) : Int), .int .i32 e.v]
set_option maxHeartbeats 2000000 in
set_option maxRecDepth 100000 in
theorem back_fn (pr st : Int) (A : Option Addr) (q : Nat) (l : List Ins) (hl : l.length ≤ 1000000) (hop : ∀ x ∈ l, x.op < 256) :
    Does Tryz.prog 7 [.agg #[.int .i64 pr, .int .i64 st, .slice A l.length q]] [ros Ins.rcells A l] (fun v Γ' => ∃ (B : Option Addr) (q' : Nat), v = .agg #[.int .i64 pr, .int .i64 st, .slice B l.length q'] ∧ Γ' = [rows Ins.cells 64 4 B q' l]) := by
  refine Does.enter Tryz.func7 rfl Tryz.ntmps7 rfl (fun w0 => ?_)
  refine To.seq (To.reg ?_)
  refine To.boxed rfl rfl rfl rfl rfl rfl (fun b1 => ?_)
  refine To.alloc rfl rfl rfl rfl z32 (fun b2 => ?_)
  refine To.nil (To.thenN (To.seq (To.reg ?_)))
  refine To.f fl28_0 ?_
  refine To.lo 1 c3 ?_
  refine To.f fl28_1 ?_
  refine To.lo 1 c3 ?_
  refine To.r (Rd.build (vs := [(0, .int .i64 pr), (1, .int .i64 st)]) (cells := [.int .i64 pr, .int .i64 st, .slice none 0 0]) rfl rfl rfl (by kernel_rfl)) ?_
  refine To.alloc rfl rfl rfl rfl z32 (fun b3 => ?_)
  refine To.u (Up.storeS (i := 0) rfl rfl rfl r32 rfl rfl rfl (box_takesAll rfl)) ?_
  refine To.nil (To.thenN (To.seq (To.seq (To.reg ?_))))
  refine To.f fl28_2 ?_
  refine To.lo 2 c26 ?_
  refine To.r (Rd.len rfl rfl Tryz.underlying26) ?_
  refine To.m (To.nil (To.thenN (To.block ?_)))
  refine To.nilRow (Ins.cells) 64 4 ?_
  refine To.sub [(1, .pointer (some ⟨b1, 0, none⟩)), (2, .pointer (some ⟨b2, 0, none⟩)), (3, .pointer (some ⟨b3, 0, none⟩)), (12, .slice A l.length q), (13, .int .i64 ((l.length : Nat) : Int)), (14, .int .i64 ((0 : Nat) : Int))] ⟨rfl, rfl, rfl, rfl, rfl, rfl, trivial⟩ ?_
  refine To.only [3, 2, 1, 1, 0] rfl ?_
  refine To.loop (fun mz ρ Γ => ∃ (Ao : Option Addr) (qo : Nat) (O : List Ins) (i : Nat), ρ = [(1, .pointer (some ⟨b1, 0, none⟩)), (2, .pointer (some ⟨b2, 0, none⟩)), (3, .pointer (some ⟨b3, 0, none⟩)), (12, .slice A l.length q), (13, .int .i64 ((l.length : Nat) : Int)), (14, .int .i64 ((i : Nat) : Int))] ∧ Γ = [box b1 [.int .i64 pr, .int .i64 st, .slice A l.length q] 28, box b2 [.int .i64 0, .int .i64 0, .slice none 0 0] 32, box b3 [.int .i64 pr, .int .i64 st, .slice Ao O.length qo] 32, ros Ins.rcells A l, rows Ins.cells 64 4 Ao qo O] ∧ mz = l.length - i ∧ (i ≤ l.length) ∧ (O = l.take i)) (l.length - 0) ⟨none, 0, ([] : List Ins), 0, rfl, rfl, rfl, (Nat.zero_le _), rfl⟩ ?_
  rintro mz _ _ ⟨Ao, qo, O, i, rfl, rfl, rfl, hi, hO⟩
  have hOl : O.length ≤ l.length := by rw [hO, List.length_take]; omega
  refine To.seq (To.reg ?_)
  refine To.r (Rd.lss rfl rfl rfl) ?_
  refine To.nil (To.thenN (To.seq ?_))
  refine To.condP rfl (fun k15 => ?_) (fun k15 => ?_)
  ·
   obtain ⟨x, hx⟩ : ∃ z0, l[i]? = some z0 := ⟨l[i]'(by omega), List.getElem?_eq_getElem _⟩
   have hop2 := hop x (List.mem_of_getElem? hx)
   refine To.skip (To.thenN (To.seq (To.block (To.seq (To.reg ?_)))))
   refine To.r (Rd.indexRos encRi (i := 3) (j := i) rfl rfl rfl s26 rfl hx) ?_
   refine To.r (Rd.loadS (i := 3) rfl rfl r61 rfl (ros_gives encRi hx) (encRi.len _)) ?_
   refine To.alloc rfl rfl rfl rfl z61 (fun b5 => ?_)
   refine To.u (Up.storeS (i := 0) rfl rfl rfl r61 rfl rfl rfl (box_takesAll rfl)) ?_
   refine To.nil (To.thenN (To.reg ?_))
   refine To.f fl32_2 ?_
   refine To.lo 3 c30 ?_
   refine To.f fl61_0 ?_
   refine To.lo 0 c3 ?_
   refine To.r (Rd.conv rfl rfl Tryz.underlying3 Tryz.underlying62 (IntWalk.u8_in _ (by omega))) ?_
   refine To.f fl61_1 ?_
   refine To.lo 0 c3 ?_
   refine To.f fl61_2 ?_
   refine To.lo 0 c3 ?_
   refine To.f fl61_3 ?_
   refine To.lo 0 c2 ?_
   refine To.r (Rd.build (vs := [(0, .int .u8 ((x.op : Nat) : Int)), (1, .int .i64 x.a), (2, .int .i64 x.b), (3, .int .i64 x.n)]) (cells := [.int .u8 ((x.op : Nat) : Int), .int .i64 x.a, .int .i64 x.b, .int .i64 x.n]) rfl rfl rfl (by kernel_rfl)) ?_
   refine To.mk rfl rfl rfl (Mk.sliceN (us := [.int .u8 ((x.op : Nat) : Int), .int .i64 x.a, .int .i64 x.b, .int .i64 x.n]) rfl s30 rfl rfl rfl rfl rfl rfl) ?_
   rintro _ _ ⟨b30, rfl, rfl⟩
   refine To.ge rfl rfl rfl (Ge.append1 encIn (i := 6) (j := 0) (el := x) rfl s30 rfl rfl rfl rfl rfl (by first | omega | (simp only [List.length_append, List.length_cons, List.length_nil]; omega)) (by first | omega | (simp only [List.length_append, List.length_cons, List.length_nil]; omega))) ?_
   rintro _ _ ⟨A31, q31, rfl, rfl⟩
   refine To.f fl32_2 ?_
   refine To.u (Up.store (i := 4) rfl rfl rfl c30 rfl rfl (box_takes1 rfl)) ?_
   refine To.nil (To.blockN (To.thenN (To.reg ?_)))
   refine To.r (Rd.inc rfl rfl rfl (by omega)) ?_
   refine To.m (To.nil (To.thenN ?_))
   refine To.sub [(1, .pointer (some ⟨b1, 0, none⟩)), (2, .pointer (some ⟨b2, 0, none⟩)), (3, .pointer (some ⟨b3, 0, none⟩)), (12, .slice A l.length q), (13, .int .i64 ((l.length : Nat) : Int)), (14, .int .i64 (((i + 1) : Nat) : Int))] ⟨rfl, rfl, rfl, rfl, rfl, rfl, trivial⟩ ?_
   refine To.only [2, 2, 2, 2, 2] rfl ?_
   refine To.again (l.length - (i + 1)) (by omega) ⟨A31, q31, (O ++ [x]), i + 1, rfl, rfl, rfl, (by omega), (by rw [take_of_get hx, hO])⟩
  refine To.exit (To.thenX (To.thenX (To.blockX (To.thenN (To.seq (To.reg ?_))))))
  refine To.r (Rd.loadS (i := 2) rfl rfl r32 rfl box_whole rfl) ?_
  refine To.u (Up.storeS (i := 1) rfl rfl rfl r32 rfl rfl rfl (box_takesAll rfl)) ?_
  refine To.nil (To.thenN (To.ret ?_))
  refine To.endC [4] rfl (.inl rfl) Tryz.results7 rfl (i := 1) rfl r32 rfl ?_
  rw [show l.take i = l from List.take_of_length_le (by omega)] at hO
  exact ⟨_, _, by rw [hO], by rw [hO]⟩
end Go.Proofs.YtfkmjkooemjekaaGreatDoor

/- A raw unit, and a unit as the program has it. Own text (walks printed by sx.py). -/
import Derived.Test.YtllalpnmagpkfaaGreatDoorC8
set_option linter.unusedVariables false
set_option linter.unusedSimpArgs false
set_option maxHeartbeats 2000000
set_option maxRecDepth 100000
namespace Go.Proofs.YtllalpnmagpkfaaGreatDoor
open Go.RowKit Go.Flow Go.Mem Go.Sep
structure Sp where
 t : Nat
 f : Nat
 v : Int
def Sp.cells (e : Sp) : List Value := [.int .u8 ((e.t : Nat) : Int), .int .u8 ((e.f : Nat) : Int), .int .i32 e.v]
theorem back_fn (pr st : Int) (A : Option Addr) (q : Nat) (l : List Ins) (hl : l.length ≤ 1000000) (hop : ∀ x ∈ l, x.op < 256) :
    Does Tryz.prog 17 [.agg #[.int .i64 pr, .int .i64 st, .slice A l.length q]] [ros Ins.rc A l] (fun v Γ' => ∃ (B : Option Addr) (q' : Nat), v = .agg #[.int .i64 pr, .int .i64 st, .slice B l.length q'] ∧ Γ' = [rows Ins.cells 109 4 B q' l]) := by
 refine Does.enter Tryz.func17 rfl Tryz.ntmps17 rfl (fun w0 => ?_)
 refine To.s (To.g (To.boxed rfl rfl rfl rfl rfl rfl (fun b1 => ?_)))
 refine To.alloc rfl rfl rfl rfl z42 (fun b2 => ?_)
 refine To.n (To.t (To.s (To.g (To.f fl37_0 ?_))))
 refine To.lo 1 c3 ?_
 refine To.f fl37_1 ?_
 refine To.lo 1 c3 ?_
 refine To.r (Rd.build (vs := [(0, .int .i64 pr), (1, .int .i64 st)]) (cells := [.int .i64 pr, .int .i64 st, .slice none 0 0]) rfl rfl rfl (by kernel_rfl)) ?_
 refine To.alloc rfl rfl rfl rfl z42 (fun b3 => ?_)
 refine To.u (Up.storeS (i := 0) rfl rfl rfl r42 rfl rfl rfl (bta rfl)) ?_
 refine To.n (To.t (To.s (To.s (To.g (To.f fl37_2 ?_)))))
 refine To.lo 2 c35 ?_
 refine To.r (Rd.len rfl rfl Tryz.underlying35) ?_
 refine To.m (To.n (To.t (To.b ?_)))
 refine To.nilRow (Ins.cells) 109 4 (To.only [3, 2, 1, 1, 0] rfl (To.loopS (fun mz ρ Γ => ∃ (Ao : Option Addr) (qo : Nat) (O : List Ins) (i : Nat), ρ = [(1, pv b1), (2, pv b2), (3, pv b3), (12, .slice A l.length q), (13, nv l.length), (14, nv i)] ∧ Γ = [box b1 [.int .i64 pr, .int .i64 st, .slice A l.length q] 37, box b2 [.int .i64 0, .int .i64 0, .slice none 0 0] 42, box b3 [.int .i64 pr, .int .i64 st, .slice Ao O.length qo] 42, ros Ins.rc A l, rows Ins.cells 109 4 Ao qo O] ∧ mz = l.length - i ∧ (i ≤ l.length) ∧ (O = l.take i)) (l.length - 0) ⟨⟨none, 0, ([] : List Ins), 0, rfl, rfl, rfl, (Nat.zero_le _), rfl⟩, ⟨rfl, rfl, rfl, rfl, rfl, rfl, trivial⟩⟩ ?_))
 rintro mz _ _ ⟨Ao, qo, O, i, rfl, rfl, rfl, hi, hO⟩
 have hOl : O.length ≤ l.length := by rw [hO, List.length_take]; omega
 refine To.s (To.g (To.lt ?_))
 refine To.n (To.t (To.s (To.cp rfl (fun k15 => ?_) (fun k15 => ?_))))
 obtain ⟨x, hx⟩ : ∃ z0, l[i]? = some z0 := ⟨l[i]'(by omega), gge _⟩
 have hop2 := hop x (mog hx)
 refine To.sp (To.t (To.s (To.b (To.s (To.g (To.r (Rd.ixo encRi (i := 3) (j := i) rfl rfl rfl s35 rfl hx) ?_))))))
 refine To.r (Rd.lS (i := 3) rfl rfl r54 rfl (rsg encRi hx) (encRi.len _)) ?_
 refine To.alloc rfl rfl rfl rfl z54 (fun b5 => ?_)
 refine To.u (Up.storeS (i := 0) rfl rfl rfl r54 rfl rfl rfl (bta rfl)) ?_
 refine To.n (To.t (To.g (To.f fl42_2 ?_)))
 refine To.lo 3 c40 ?_
 refine To.f fl54_0 ?_
 refine To.lo 0 c3 ?_
 refine To.r (Rd.conv rfl rfl Tryz.underlying3 Tryz.underlying107 (IntWalk.u8_in _ (by omega))) ?_
 refine To.f fl54_1 ?_
 refine To.lo 0 c3 ?_
 refine To.f fl54_2 ?_
 refine To.lo 0 c3 ?_
 refine To.f fl54_3 ?_
 refine To.lo 0 c2 ?_
 refine To.r (Rd.build (vs := [(0, .int .u8 ((x.op : Nat) : Int)), (1, .int .i64 x.a), (2, .int .i64 x.b), (3, .int .i64 x.n)]) (cells := [.int .u8 ((x.op : Nat) : Int), .int .i64 x.a, .int .i64 x.b, .int .i64 x.n]) rfl rfl rfl (by kernel_rfl)) ?_
 refine To.mk rfl rfl rfl (Mk.sN (us := [.int .u8 ((x.op : Nat) : Int), .int .i64 x.a, .int .i64 x.b, .int .i64 x.n]) rfl s40 rfl rfl rfl rfl rfl rfl) ?_
 rintro _ _ ⟨b30, rfl, rfl⟩
 refine To.ge rfl rfl rfl (Ge.append1 encIn (i := 6) (j := 0) (el := x) rfl s40 rfl rfl rfl rfl rfl (by first | omega | (simp; done) | (simp; omega)) (by first | omega | (simp; done) | (simp; omega))) ?_
 rintro _ _ ⟨A31, q31, rfl, rfl⟩
 refine To.f fl42_2 ?_
 refine To.u (Up.store (i := 4) rfl rfl rfl c40 rfl rfl (bt1 rfl)) ?_
 refine To.n (To.bn (To.t (To.g (To.r (Rd.inc rfl rfl rfl (by omega)) ?_))))
 refine To.m (To.n (To.t ?_))
 refine To.only [2, 2, 2, 2, 2] rfl (To.agS (l.length - (i + 1)) (by omega) ⟨⟨A31, q31, (O ++ [x]), i + 1, rfl, rfl, rfl, (by omega), (by rw [take_of_get hx, hO])⟩, ⟨rfl, rfl, rfl, rfl, rfl, rfl, trivial⟩⟩)
 refine To.ex (To.tx (To.tx (To.bx (To.t (To.s (To.g (To.r (Rd.lS (i := 2) rfl rfl r42 rfl box_whole rfl) ?_)))))))
 refine To.u (Up.storeS (i := 1) rfl rfl rfl r42 rfl rfl rfl (bta rfl)) ?_
 refine To.n (To.t (To.rt (To.endC [4] rfl (.inl rfl) Tryz.results17 rfl (i := 1) rfl r42 rfl ?_)))
 rw [show l.take i = l from List.take_of_length_le (by omega)] at hO
 exact ⟨_, _, by rw [hO], by rw [hO]⟩
end Go.Proofs.YtllalpnmagpkfaaGreatDoor

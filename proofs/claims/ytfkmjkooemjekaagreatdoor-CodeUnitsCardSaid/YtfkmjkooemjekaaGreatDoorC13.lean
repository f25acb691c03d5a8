/- CodeUnits: the input opened. Own text. -/
import Derived.Test.YtfkmjkooemjekaaGreatDoorC12
import Derived.Test.YtfkmjkooemjekaaGreatDoorRows
set_option linter.unusedVariables false
set_option linter.unusedSimpArgs false
namespace Go.Proofs.YtfkmjkooemjekaaGreatDoor
open Go.ChangeShapes Go.WideShapes Go.ChangeAt Go.RowKit Go.Flow Go.Mem Go.Sep
section
variable {H : Type} {ench : TypeId × Value → H} {w : World} {base : Nat} {spare : Nat → Bool} {held : Bool}
abbrev okSp (e : Sp) : Prop := (e.t < 256 ∧ e.f < 256) ∧ -2147483648 ≤ e.v ∧ e.v ≤ 2147483647
theorem open_spoil {fuel : Nat} {cs : List Value} {x : DataW H × List MemPlace} (h : DataW.trod ench Tryz.prog w base spare held fuel 59 cs = some x) (hl : cs.length = 3) : ∃ e : Sp, cs = e.cells ∧ okSp e := by
  match cs, hl with
  | [c0, c1, c2], _ =>
    obtain ⟨_, _, g0⟩ := open_fields Tryz.underlying59 h 0 _ rfl (by kernel_rfl) (c := c0) rfl
    obtain ⟨_, _, g1⟩ := open_fields Tryz.underlying59 h 1 _ rfl (by kernel_rfl) (c := c1) rfl
    obtain ⟨_, _, g2⟩ := open_fields Tryz.underlying59 h 2 _ rfl (by kernel_rfl) (c := c2) rfl
    obtain ⟨n0, e0, _, w0⟩ := DataW.trod_int Tryz.underlying5 g0
    obtain ⟨n1, e1, _, w1⟩ := DataW.trod_int Tryz.underlying5 g1
    obtain ⟨n2, e2, _, w2⟩ := DataW.trod_int Tryz.underlying21 g2
    have b0 := bounds_u8 w0
    have b1 := bounds_u8 w1
    have b2 := bounds_i32 w2
    simp only [List.cons.injEq, and_true] at e0 e1 e2
    subst e0 e1 e2
    exact ⟨⟨n0.toNat, n1.toNat, n2⟩, by show _ = [Value.int .u8 ((n0.toNat : Nat) : Int), .int .u8 ((n1.toNat : Nat) : Int), _]; rw [Int.toNat_of_nonneg b0.1, Int.toNat_of_nonneg b1.1], ⟨by show n0.toNat < 256; omega, by show n1.toNat < 256; omega⟩, b2⟩
theorem open_spoils {fuel : Nat} {cs : List Value} {x : DataW H × List MemPlace} (h : DataW.trod ench Tryz.prog w base spare held fuel 22 cs = some x) :
    ∃ (A : Option Addr) (l : List Sp) (cap : Nat), cs = [.slice A l.length cap] ∧ (ros Sp.cells A l).holds w ∧ ∀ e ∈ l, okSp e := by
  obtain ⟨A, l, cap, h1, h2, h3, _, _⟩ := open_list (enc := Sp.cells) (size := 3) (fun _ => rfl) (by decide) okSp Tryz.underlying22 (by kernel_rfl) (fun n cs' x' h' hl => open_spoil h' hl) h
  exact ⟨A, l, cap, h1, h2, h3⟩
set_option maxRecDepth 100000 in
theorem open_raw {r : Reach} {b0 : Nat} {v : Value} {d : DataW H} {ps : List MemPlace} (hval : Value.okWide Tryz.prog w r b0 24 v) (hd : DataW.Trod ench Tryz.prog w base spare held 24 v d ps) :
    ∃ (p s : Nat) (A : Option Addr) (l : List Sp) (q : Nat), v = .agg #[.int .u8 ((p : Nat) : Int), .int .u8 ((s : Nat) : Int), .slice A l.length q] ∧ p < 256 ∧ s < 256 ∧ (ros Sp.cells A l).holds w ∧ ∀ e ∈ l, okSp e := by
  simp only [Value.okWide, Tryz.underlying24] at hval
  obtain ⟨cs, rfl, hsz, _⟩ := hval
  obtain ⟨fuel, hf⟩ := hd
  have hl : cs.toList.length = 3 := by rw [Array.length_toList, hsz]; kernel_rfl
  have hf2 : DataW.trod ench Tryz.prog w base spare held fuel 24 cs.toList = some (d, ps) := hf
  obtain ⟨l⟩ := cs
  match l, hl with
  | [c0, c1, c2], _ =>
    obtain ⟨_, _, g0⟩ := open_fields Tryz.underlying24 hf2 0 _ rfl (by kernel_rfl) (c := c0) rfl
    obtain ⟨_, _, g1⟩ := open_fields Tryz.underlying24 hf2 1 _ rfl (by kernel_rfl) (c := c1) rfl
    obtain ⟨_, _, g2⟩ := open_fields Tryz.underlying24 hf2 2 _ rfl (by kernel_rfl) (c := c2) rfl
    obtain ⟨n0, e0, _, w0⟩ := DataW.trod_int Tryz.underlying5 g0
    obtain ⟨n1, e1, _, w1⟩ := DataW.trod_int Tryz.underlying5 g1
    obtain ⟨A, l, q, e2, r2, k2⟩ := open_spoils g2
    have b0 := bounds_u8 w0
    have b1 := bounds_u8 w1
    simp only [List.cons.injEq, and_true] at e0 e1 e2
    subst e0 e1 e2
    exact ⟨n0.toNat, n1.toNat, A, l, q, by rw [Int.toNat_of_nonneg b0.1, Int.toNat_of_nonneg b1.1], by omega, by omega, r2, k2⟩
end
theorem units_law {w : World} {p s : Nat} {A : Option Addr} {l : List Sp} {q : Nat} (hp : p < 256) (hs : s < 256) (r : (ros Sp.cells A l).holds w) (hl : ∀ e ∈ l, okSp e) (g : oks [glc, tabC] w) :
    Calls Tryz.prog 3 #[.agg #[.int .u8 ((p : Nat) : Int), .int .u8 ((s : Nat) : Int), .slice A l.length q]] w fun e w' => e = .returned (.bool true) ∧ Ext w w' :=
  Does.law (units_fn p s A q l hp hs hl) rfl (oks_more (g _ (by simp)) (oks_more (g _ (by simp)) (oks_one r)))
end Go.Proofs.YtfkmjkooemjekaaGreatDoor

/- Arguments that are lists of operations. Own text. -/
import Derived.Test.YtnamppkicefbjaaSeps
import Derived.Test.YtnamppkicefbjaaF1
namespace Go.Proofs.Ytnamppkicefbjaa
open Go.ChangeShapes Go.WideShapes Go.ChangeAt Go.RowKit Go.Flow Go.Mem Go.Sep
section
variable {H : Type} {ench : TypeId × Value → H} {w : World} {base : Nat} {spare : Nat → Bool} {held : Bool}
theorem open_i64s {fuel : Nat} {cs : List Value} {x : DataW H × List MemPlace} (h : DataW.trod ench Try.prog w base spare held fuel 28 cs = some x) :
    ∃ (A : Option Addr) (l : List Int) (cap : Nat), cs = [.slice A l.length cap] ∧ Src w A (ints l) ∧ l.length ≤ cap ∧ cap ≤ maxLen := by
  obtain ⟨A, l, cap, h1, h2, _, h3, h4⟩ := open_list (enc := encI) (size := 1) (fun _ => rfl) (by decide) (fun _ => True) Try.underlying28 (by kernel_rfl) (fun n cs' x' h' _ => by
    obtain ⟨k, rfl, _⟩ := DataW.trod_int Try.underlying2 h'
    exact ⟨k, rfl, trivial⟩) h
  exact ⟨A, l, cap, h1, by rw [← ints_flat]; exact h2, h3, h4⟩
theorem open_opr {fuel : Nat} {cs : List Value} {x : DataW H × List MemPlace} (h : DataW.trod ench Try.prog w base spare held fuel 56 cs = some x) (hl : cs.length = 9) : ∃ o : Opr, cs = o.cells ∧ o.ok ∧ Src w o.A (ints o.args) := by
  match cs, hl with
  | [c0, c1, c2, c3, c4, c5, c6, c7, c8], _ =>
    obtain ⟨_, _, g0⟩ := open_fields Try.underlying56 h 0 _ rfl (by kernel_rfl) (c := c0) rfl
    obtain ⟨_, _, g1⟩ := open_fields Try.underlying56 h 1 _ rfl (by kernel_rfl) (c := c1) rfl
    obtain ⟨_, _, g2⟩ := open_fields Try.underlying56 h 2 _ rfl (by kernel_rfl) (c := c2) rfl
    obtain ⟨_, _, g3⟩ := open_fields Try.underlying56 h 3 _ rfl (by kernel_rfl) (c := c3) rfl
    obtain ⟨_, _, g4⟩ := open_fields Try.underlying56 h 4 _ rfl (by kernel_rfl) (c := c4) rfl
    obtain ⟨_, _, g5⟩ := open_fields Try.underlying56 h 5 _ rfl (by kernel_rfl) (c := c5) rfl
    obtain ⟨_, _, g6⟩ := open_fields Try.underlying56 h 6 _ rfl (by kernel_rfl) (c := c6) rfl
    obtain ⟨_, _, g7⟩ := open_fields Try.underlying56 h 7 _ rfl (by kernel_rfl) (c := c7) rfl
    obtain ⟨_, _, g8⟩ := open_fields Try.underlying56 h 8 _ rfl (by kernel_rfl) (c := c8) rfl
    obtain ⟨n0, e0, _, w0⟩ := DataW.trod_int Try.underlying5 g0
    obtain ⟨n1, e1, _, w1⟩ := DataW.trod_int Try.underlying5 g1
    obtain ⟨n2, e2, _, w2⟩ := DataW.trod_int Try.underlying5 g2
    obtain ⟨n3, e3, _, w3⟩ := DataW.trod_int Try.underlying5 g3
    obtain ⟨n4, e4, _, w4⟩ := DataW.trod_int Try.underlying54 g4
    obtain ⟨n5, e5, _, w5⟩ := DataW.trod_int Try.underlying54 g5
    obtain ⟨n6, e6, _, w6⟩ := DataW.trod_int Try.underlying54 g6
    obtain ⟨n7, e7, _, w7⟩ := DataW.trod_int Try.underlying54 g7
    obtain ⟨A, l, cap, e8, hsrc, hlc, hcm⟩ := open_i64s g8
    simp only [List.cons.injEq, and_true] at e0 e1 e2 e3 e4 e5 e6 e7 e8
    subst e0 e1 e2 e3 e4 e5 e6 e7 e8
    have b0 := bounds_u8 w0
    have b1 := bounds_u8 w1
    have b2 := bounds_u8 w2
    have b3 := bounds_u8 w3
    have b4 := bounds_i8 w4
    have b5 := bounds_i8 w5
    have b6 := bounds_i8 w6
    have b7 := bounds_i8 w7
    unfold maxLen at hcm
    exact ⟨⟨n0, n1, n2, n3, n4, n5, n6, n7, l, A, cap⟩, rfl, ⟨by simp only; omega, by simp only; omega, by simp only; omega, by simp only; omega, by simp only; omega, by simp only; omega, by simp only; omega, by simp only; omega, by simp only; omega⟩, hsrc⟩
theorem open_ops {fuel : Nat} {cs : List Value} {x : DataW H × List MemPlace} (h : DataW.trod ench Try.prog w base spare held fuel 22 cs = some x) :
    ∃ (A : Option Addr) (l : List Opr) (cap : Nat), cs = [.slice A l.length cap] ∧ (∀ o ∈ l, o.ok) ∧ l.length ≤ 9223372036854775807 ∧ l.length ≤ cap ∧ (ros Opr.cells A l).holds w ∧ (argsS (l.map Opr.ar)).holds w := by
  obtain ⟨A, l, cap, h1, h2, h3, h4, h5⟩ := open_list (enc := Opr.cells) (size := 9) (fun _ => rfl) (by decide) (fun o => o.ok ∧ Src w o.A (ints o.args)) Try.underlying22 (by kernel_rfl) (fun n cs' x' h' hl => open_opr h' hl) h
  unfold maxLen at h5
  refine ⟨A, l, cap, h1, fun o ho => (h3 o ho).1, by omega, h4, h2, fun p hp => ?_⟩
  obtain ⟨o, ho, rfl⟩ := List.mem_map.1 hp
  exact (h3 o ho).2
end
end Go.Proofs.Ytnamppkicefbjaa

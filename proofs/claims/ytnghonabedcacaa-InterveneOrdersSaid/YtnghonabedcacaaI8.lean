/- Arguments that are interventions, opened. Own text. -/
import Derived.Test.YtnghonabedcacaaI7
namespace Go.Proofs.Ytnghonabedcacaa
open Go.ChangeShapes Go.WideShapes Go.ChangeAt Go.RowKit Go.Flow Go.Mem Go.Sep
section
variable {H : Type} {ench : TypeId × Value → H} {w : World} {base : Nat} {spare : Nat → Bool} {held : Bool}
theorem open_Key {fuel : Nat} {cs : List Value} {x : DataW H × List MemPlace} (h : DataW.trod ench Try.prog w base spare held fuel 37 cs = some x) (hl : cs.length = 4) : ∃ e : Ky, cs = e.cells ∧ True := by
  match cs, hl with
  | [c0, c1, c2, c3], _ =>
    obtain ⟨_, _, g0⟩ := open_fields Try.underlying37 h 0 _ rfl (by kernel_rfl) (c := c0) rfl
    obtain ⟨_, _, g1⟩ := open_fields Try.underlying37 h 1 _ rfl (by kernel_rfl) (c := c1) rfl
    obtain ⟨_, _, g2⟩ := open_fields Try.underlying37 h 2 _ rfl (by kernel_rfl) (c := c2) rfl
    obtain ⟨_, _, g3⟩ := open_fields Try.underlying37 h 3 _ rfl (by kernel_rfl) (c := c3) rfl
    obtain ⟨n0, e0, _, _⟩ := DataW.trod_int Try.underlying35 g0
    obtain ⟨n1, e1, _, _⟩ := DataW.trod_int Try.underlying3 g1
    obtain ⟨n2, e2, _, _⟩ := DataW.trod_int Try.underlying3 g2
    obtain ⟨n3, e3, _, _⟩ := DataW.trod_int Try.underlying3 g3
    simp only [List.cons.injEq, and_true] at e0 e1 e2 e3
    subst e0 e1 e2 e3
    exact ⟨⟨n0, n1, n2, n3⟩, rfl, trivial⟩
theorem open_Keys {fuel : Nat} {cs : List Value} {x : DataW H × List MemPlace} (h : DataW.trod ench Try.prog w base spare held fuel 22 cs = some x) :
    ∃ (A : Option Addr) (l : List Ky) (cap : Nat), cs = [.slice A l.length cap] ∧ l.length ≤ cap ∧ (ros Ky.cells A l).holds w := by
  obtain ⟨A, l, cap, h1, h2, _, h4, _⟩ := open_list (enc := Ky.cells) (size := 4) (fun _ => rfl) (by decide) (fun _ => True) Try.underlying22 (by kernel_rfl) (fun n cs' x' h' hl => open_Key h' hl) h
  exact ⟨A, l, cap, h1, h4, h2⟩
theorem open_Message {fuel : Nat} {cs : List Value} {x : DataW H × List MemPlace} (h : DataW.trod ench Try.prog w base spare held fuel 33 cs = some x) (hl : cs.length = 3) : ∃ e : Ms, cs = e.cells ∧ True := by
  match cs, hl with
  | [c0, c1, c2], _ =>
    obtain ⟨_, _, g0⟩ := open_fields Try.underlying33 h 0 _ rfl (by kernel_rfl) (c := c0) rfl
    obtain ⟨_, _, g1⟩ := open_fields Try.underlying33 h 1 _ rfl (by kernel_rfl) (c := c1) rfl
    obtain ⟨_, _, g2⟩ := open_fields Try.underlying33 h 2 _ rfl (by kernel_rfl) (c := c2) rfl
    obtain ⟨n0, e0, _, _⟩ := DataW.trod_int Try.underlying3 g0
    obtain ⟨n1, e1, _, _⟩ := DataW.trod_int Try.underlying3 g1
    obtain ⟨n2, e2, _, _⟩ := DataW.trod_int Try.underlying3 g2
    simp only [List.cons.injEq, and_true] at e0 e1 e2
    subst e0 e1 e2
    exact ⟨⟨n0, n1, n2⟩, rfl, trivial⟩
theorem open_Messages {fuel : Nat} {cs : List Value} {x : DataW H × List MemPlace} (h : DataW.trod ench Try.prog w base spare held fuel 23 cs = some x) :
    ∃ (A : Option Addr) (l : List Ms) (cap : Nat), cs = [.slice A l.length cap] ∧ l.length ≤ cap ∧ (ros Ms.cells A l).holds w := by
  obtain ⟨A, l, cap, h1, h2, _, h4, _⟩ := open_list (enc := Ms.cells) (size := 3) (fun _ => rfl) (by decide) (fun _ => True) Try.underlying23 (by kernel_rfl) (fun n cs' x' h' hl => open_Message h' hl) h
  exact ⟨A, l, cap, h1, h4, h2⟩
set_option maxRecDepth 100000 in
theorem open_iv {r : Reach} {b0 : Nat} {v : Value} {d : DataW H} {ps : List MemPlace} (hval : Value.okWide Try.prog w r b0 25 v) (hd : DataW.Trod ench Try.prog w base spare held 25 v d ps) :
    ∃ (A B : Option Addr) (a b : Nat) (p : List Ky) (x : List Ms), v = .agg #[.slice A p.length a, .slice B x.length b] ∧ p.length ≤ a ∧ x.length ≤ b ∧ (ros Ky.cells A p).holds w ∧ (ros Ms.cells B x).holds w := by
  simp only [Value.okWide, Try.underlying25] at hval
  obtain ⟨cs, rfl, hsz, _⟩ := hval
  obtain ⟨fuel, hf⟩ := hd
  have hl : cs.toList.length = 2 := by rw [Array.length_toList, hsz]; kernel_rfl
  have hf2 : DataW.trod ench Try.prog w base spare held fuel 25 cs.toList = some (d, ps) := hf
  obtain ⟨l⟩ := cs
  match l, hl with
  | [c0, c1], _ =>
    obtain ⟨_, _, g0⟩ := open_fields Try.underlying25 hf2 0 _ rfl (by kernel_rfl) (c := c0) rfl
    obtain ⟨_, _, g1⟩ := open_fields Try.underlying25 hf2 1 _ rfl (by kernel_rfl) (c := c1) rfl
    obtain ⟨A, p, a, e0, h1, h2⟩ := open_Keys g0
    obtain ⟨B, x, b, e1, h3, h4⟩ := open_Messages g1
    simp only [List.cons.injEq, and_true] at e0 e1
    subst e0 e1
    exact ⟨A, B, a, b, p, x, rfl, h1, h3, h2, h4⟩
end
theorem oks6 {a b c d e f : Chunk} {w : World} (h1 : a.holds w) (h2 : b.holds w) (h3 : c.holds w) (h4 : d.holds w) (h5 : e.holds w) (h6 : f.holds w) : oks [a, b, c, d, e, f] w := oks_more h1 (oks_more h2 (oks_more h3 (oks_more h4 (oks_two h5 h6))))
end Go.Proofs.Ytnghonabedcacaa

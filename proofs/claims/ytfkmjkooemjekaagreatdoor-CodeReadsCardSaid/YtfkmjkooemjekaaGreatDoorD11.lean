/- CodeReads: the input opened. Own text. -/
import Derived.Test.YtfkmjkooemjekaaGreatDoorD10
import Derived.Test.YtfkmjkooemjekaaGreatDoorC12
import Derived.Test.YtfkmjkooemjekaaGreatDoorRows
import Derived.SizedLaws
set_option linter.unusedVariables false
set_option linter.unusedSimpArgs false
namespace Go.Proofs.YtfkmjkooemjekaaGreatDoor
open Go.ChangeShapes Go.WideShapes Go.ChangeAt Go.RowKit Go.Flow Go.Mem Go.Sep
section
variable {H : Type} {ench : TypeId × Value → H} {w : World} {base : Nat} {spare : Nat → Bool} {held : Bool}
theorem open_arg {fuel : Nat} {cs : List Value} {d : DataW H} {ps : List MemPlace} (h : DataW.trod ench Tryz.prog w base spare held fuel 38 cs = some (d, ps)) :
    ∃ (A : Option Addr) (l : List Nat) (cap : Nat), cs = [.slice A l.length cap] ∧ l.length ≤ cap ∧ (∀ x ∈ l, x < 256) ∧ (ros encY A l).holds w ∧ (l.length = 0 ∨ ∃ es sp, d = .slice es sp ∧ es.length = l.length) := by
  obtain ⟨A, l, cap, h1, h2, h3, h4, _⟩ := open_list (enc := encY) (size := 1) (fun _ => rfl) (by decide) (fun x : Nat => x < 256) Tryz.underlying38 (by kernel_rfl) (fun n cs' x' h' hl => by
    obtain ⟨z, hz, _, hw⟩ := DataW.trod_int Tryz.underlying5 h'
    have hb := bounds_u8 hw
    exact ⟨z.toNat, by rw [hz, encY, Int.toNat_of_nonneg hb.1], by omega⟩) h
  refine ⟨A, l, cap, h1, h4, h3, h2, ?_⟩
  subst h1
  rcases DataW.trod_slice Tryz.underlying38 h with ⟨h5, _⟩ | ⟨a, len, cap', elems, rest, n, _, h5, h6, _, _, _, h7, _⟩
  · simp only [List.cons.injEq, Value.slice.injEq, and_true] at h5
    exact .inl h5.2.1
  · simp only [List.cons.injEq, Value.slice.injEq, and_true] at h5
    simp only [Prod.mk.injEq] at h6
    exact .inr ⟨_, _, h6.1, by rw [List.length_map, h7, h5.2.1]⟩
end
theorem reads_law {w : World} {A : Option Addr} {p : List Nat} {q : Nat} (hl : p.length ≤ 140737488351232) (hb : ∀ x ∈ p, x < 256) (hc : p.length ≤ q) (r : (ros encY A p).holds w) (g : oks [glc, tabC] w) :
    Calls Tryz.prog 4 #[.slice A p.length q] w fun e w' => e = .returned (.bool true) ∧ Ext w w' :=
  Does.law (reads_fn A q p (by omega) ⟨by omega, hb⟩ hc) rfl (oks_more (g _ (by simp)) (oks_one r))
end Go.Proofs.YtfkmjkooemjekaaGreatDoor

/- The statement ExecUnits: its parts joined. Own text. -/
import Derived.Test.YtoehnbacbobhiaaGreatDoorX46
import Derived.Test.YtoehnbacbobhiaaGreatDoorX46b
import Derived.Test.YtoehnbacbobhiaaGreatDoorX46c
import Derived.Test.YtoehnbacbobhiaaGreatDoorX21
import Derived.Test.YtoehnbacbobhiaaGreatDoorX13
set_option linter.unusedVariables false
set_option linter.unusedSimpArgs false
namespace Go.Proofs.YtoehnbacbobhiaaGreatDoor
open Go.ChangeShapes Go.WideShapes Go.ChangeAt Go.RowKit Go.Flow Go.Mem Go.Sep
section
variable {H : Type} {ench : TypeId × Value → H} {w : World} {base : Nat} {spare : Nat → Bool} {held : Bool}
theorem open_op {fuel : Nat} {cs : List Value} {x : DataW H × List MemPlace} (h : DataW.trod ench Tryz.prog w base spare held fuel 33 cs = some x) (hl : cs.length = 4) : ∃ e : Ins, cs = e.cells ∧ True := by
  match cs, hl with
  | [c0, c1, c2, c3], _ =>
    obtain ⟨_, _, g0⟩ := open_fields Tryz.underlying33 h 0 _ rfl (by kernel_rfl) (c := c0) rfl
    obtain ⟨_, _, g1⟩ := open_fields Tryz.underlying33 h 1 _ rfl (by kernel_rfl) (c := c1) rfl
    obtain ⟨_, _, g2⟩ := open_fields Tryz.underlying33 h 2 _ rfl (by kernel_rfl) (c := c2) rfl
    obtain ⟨_, _, g3⟩ := open_fields Tryz.underlying33 h 3 _ rfl (by kernel_rfl) (c := c3) rfl
    obtain ⟨n0, e0, _, w0⟩ := DataW.trod_int Tryz.underlying5 g0
    obtain ⟨n1, e1, _, w1⟩ := DataW.trod_int Tryz.underlying3 g1
    obtain ⟨n2, e2, _, w2⟩ := DataW.trod_int Tryz.underlying3 g2
    obtain ⟨n3, e3, _, w3⟩ := DataW.trod_int Tryz.underlying2 g3
    have b0 := bounds_u8 w0
    simp only [List.cons.injEq, and_true] at e0 e1 e2 e3
    subst e0 e1 e2 e3
    exact ⟨⟨n0.toNat, n1, n2, n3⟩, by show _ = [Value.int .u8 ((n0.toNat : Nat) : Int), _, _, _]; rw [Int.toNat_of_nonneg b0.1], trivial⟩
theorem open_ops {fuel : Nat} {cs : List Value} {x : DataW H × List MemPlace} (h : DataW.trod ench Tryz.prog w base spare held fuel 22 cs = some x) :
    ∃ (A : Option Addr) (l : List Ins) (cap : Nat), cs = [.slice A l.length cap] ∧ l.length ≤ cap ∧ (ros Ins.cells A l).holds w := by
  obtain ⟨A, l, cap, h1, h2, _, h4, _⟩ := open_list (enc := Ins.cells) (size := 4) (fun _ => rfl) (by decide) (fun _ => True) Tryz.underlying22 (by kernel_rfl) (fun n cs' x' h' hl => open_op h' hl) h
  exact ⟨A, l, cap, h1, h4, h2⟩
end
theorem four8 {zs : List Int} (h : zs.length = 4) (hw : ∀ z ∈ zs, (Lit.int .u8 z).wf = true) : ∃ a b c d : Nat, zs = [(a : Int), (b : Int), (c : Int), (d : Int)] ∧ a < 256 ∧ b < 256 ∧ c < 256 ∧ d < 256 := by
  match zs, h with
  | [y0, y1, y2, y3], _ =>
    have b0 := bounds_u8 (hw y0 (by simp))
    have b1 := bounds_u8 (hw y1 (by simp))
    have b2 := bounds_u8 (hw y2 (by simp))
    have b3 := bounds_u8 (hw y3 (by simp))
    exact ⟨y0.toNat, y1.toNat, y2.toNat, y3.toNat, by rw [Int.toNat_of_nonneg b0.1, Int.toNat_of_nonneg b1.1, Int.toNat_of_nonneg b2.1, Int.toNat_of_nonneg b3.1], by omega, by omega, by omega, by omega⟩
theorem units_law {w : World} {A : Option Addr} {ca : Nat} {l : List Ins} {h0 h1 h2 h3 : Nat} {a : Wx} (hca : l.length ≤ ca) (hh : h0 < 256 ∧ h1 < 256 ∧ h2 < 256 ∧ h3 < 256) (ha : a.ok) (haf : a.flags < 256) (r : (ros Ins.cells A l).holds w) (a0 : (ros encI a.Av a.vars).holds w) (a1 : (ros encEn a.At a.tabs).holds w) (a2 : (ros encEn a.Ad a.disk).holds w) (a3 : (ros encI a.Aa a.args).holds w) (a4 : (ros encY a.Af a.fail).holds w) (t : tabC.holds w) :
    Calls Tryz.prog 3 #[.slice A l.length ca, .agg #[.int .u8 (h0 : Int), .int .u8 (h1 : Int), .int .u8 (h2 : Int), .int .u8 (h3 : Int)], .agg a.cells.toArray] w fun e w' => e = .returned (.bool true) ∧ Ext w w' := by
  have ho := oks_more r (oks_more a0 (oks_more a1 (oks_more a2 (oks_more a3 (oks_more a4 (oks_one t))))))
  by_cases h60 : l.length ≤ 60
  · by_cases hv : verifyV ((h0 % 5 : Nat) : Int) ((h1 % 8 : Nat) : Int) (l.map m36) = 0
    · by_cases hf : ((((h3 % 5) : Nat) : Int) = ((h0 % 5 : Nat) : Int) ∧ ∀ x ∈ l.map m36, referB x (h2 % 4) (h2 / 4 % 3) (h3 / 8 % 3) = true)
      · exact Does.law (units_ok_fn A ca l hca h0 h1 h2 h3 hh a ha haf (fun _ => hv) (fun h => by omega) (fun _ => hf) (fun h => by omega)) rfl ho
      · exact Does.law (units_unfit_fn A ca l hca h0 h1 h2 h3 hh a ha haf (fun _ => hv) (fun h => by omega) (fun _ => hf) (fun h => by omega)) rfl ho
    · exact Does.law (units_bad_fn A ca l hca h0 h1 h2 h3 hh a ha haf (fun _ => hv) (fun h => by omega)) rfl ho
  · by_cases hv : verifyV ((h0 % 5 : Nat) : Int) ((h1 % 8 : Nat) : Int) ((l.take 60).map m36) = 0
    · by_cases hf : ((((h3 % 5) : Nat) : Int) = ((h0 % 5 : Nat) : Int) ∧ ∀ x ∈ (l.take 60).map m36, referB x (h2 % 4) (h2 / 4 % 3) (h3 / 8 % 3) = true)
      · exact Does.law (units_ok_fn A ca l hca h0 h1 h2 h3 hh a ha haf (fun h => by omega) (fun _ => hv) (fun h => by omega) (fun _ => hf)) rfl ho
      · exact Does.law (units_unfit_fn A ca l hca h0 h1 h2 h3 hh a ha haf (fun h => by omega) (fun _ => hv) (fun h => by omega) (fun _ => hf)) rfl ho
    · exact Does.law (units_bad_fn A ca l hca h0 h1 h2 h3 hh a ha haf (fun h => by omega) (fun _ => hv)) rfl ho
end Go.Proofs.YtoehnbacbobhiaaGreatDoor

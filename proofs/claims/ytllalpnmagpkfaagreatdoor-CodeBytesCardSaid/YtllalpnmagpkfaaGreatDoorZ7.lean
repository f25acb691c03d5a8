/- Own text. -/
import Derived.Test.YtllalpnmagpkfaaGreatDoorZ6
import Derived.Test.YtllalpnmagpkfaaGreatDoorS3
import Derived.SizedLaws
namespace Go.Proofs.YtllalpnmagpkfaaGreatDoor
open Go.ChangeShapes Go.WideShapes Go.ChangeAt Go.RowKit Go.Flow Go.Mem Go.Sep
section
variable {H : Type} {ench : TypeId × Value → H} {w : World} {base : Nat} {spare : Nat → Bool} {held : Bool}
theorem open_more {fuel : Nat} {cs : List Value} {d : DataW H} {ps : List MemPlace} (h : DataW.trod ench Tryz.prog w base spare held fuel 22 cs = some (d, ps)) :
    ∃ (A : Option Addr) (l : List Nat) (cap : Nat), cs = [.slice A l.length cap] ∧ l.length ≤ cap ∧ (∀ x ∈ l, x < 256) ∧ (ros encY A l).holds w ∧ (l.length = 0 ∨ ∃ es sp, d = .slice es sp ∧ es.length = l.length) := by
 obtain ⟨A, l, cap, h1, h2, h3, h4, _⟩ := open_list (enc := encY) (size := 1) (fun _ => rfl) (by decide) (fun x : Nat => x < 256) Tryz.underlying22 (by kernel_rfl) (fun n cs' x' h' hl => by
  obtain ⟨z, hz, _, hw⟩ := DataW.trod_int Tryz.underlying5 h'
  have hb := bounds_u8 hw
  exact ⟨z.toNat, by rw [hz, encY, Int.toNat_of_nonneg hb.1], by omega⟩) h
 refine ⟨A, l, cap, h1, h4, h3, h2, ?_⟩
 subst h1
 rcases DataW.trod_slice Tryz.underlying22 h with ⟨h5, _⟩ | ⟨a, len, cap', elems, rest, n, _, h5, h6, _, _, _, h7, _⟩
 · simp only [List.cons.injEq, Value.slice.injEq, and_true] at h5
   exact .inl h5.2.1
 · simp only [List.cons.injEq, Value.slice.injEq, and_true] at h5
   simp only [Prod.mk.injEq] at h6
   exact .inr ⟨_, _, h6.1, by rw [List.length_map, h7, h5.2.1]⟩
end
theorem bytes_law {w : World} {p : Pl} (hp : p.Ok) {k : Nat} (hk : k < 256) {A : Option Addr} {m : List Nat} {q : Nat} (hl : m.length ≤ 140737488351232) (hb : ∀ x ∈ m, x < 256) (r : (ros encY A m).holds w) (rp : (all p.kids).holds w) (g : oks [glc, tabC] w) :
    Calls Tryz.prog 10 #[.agg #[.int .u8 ((p.flags : Nat) : Int), .slice p.Al p.links.length p.ql, .slice p.Ac p.comps.length p.qc], .int .u8 ((k : Nat) : Int), .slice A m.length q] w fun e w' => e = .returned (.bool true) ∧ Ext w w' :=
 Does.law (cbytes_fn p hp k hk A q m hb (by omega)) (by show owns p.kids ++ [] = []; rw [(Pl.lax p).owns]; rfl) (oks_more (g _ (by simp)) (oks_more rp (oks_one r)))
end Go.Proofs.YtllalpnmagpkfaaGreatDoor

/- CodeSpoils: the call of the law. Own text. -/
import Derived.Test.YtllalpnmagpkfaaGreatDoorS2
import Derived.Test.YtllalpnmagpkfaaGreatDoorS3
set_option linter.unusedVariables false
set_option linter.unusedSimpArgs false
namespace Go.Proofs.YtllalpnmagpkfaaGreatDoor
open Go.ChangeShapes Go.WideShapes Go.ChangeAt Go.RowKit Go.Flow Go.Mem Go.Sep
theorem spoils_law {w : World} {p : Pl} (hp : p.Ok) {k : Nat} (hk : k < 256) {A : Option Addr} {q : Nat} {l : List Sp} (hl : ∀ e ∈ l, okSp e) (r : (ros Sp.cells A l).holds w) (rp : (all p.kids).holds w) (g : oks [glc, tabC] w) :
    Calls Tryz.prog 8 #[.agg #[.int .u8 ((p.flags : Nat) : Int), .slice p.Al p.links.length p.ql, .slice p.Ac p.comps.length p.qc], .int .u8 ((k : Nat) : Int), .slice A l.length q] w fun e w' => e = .returned (.bool true) ∧ Ext w w' :=
 Does.law (spoils_fn p hp k hk A q l hl) (by show owns p.kids ++ [] = []; rw [(Pl.lax p).owns]; rfl) (oks_more (g _ (by simp)) (oks_more (g _ (by simp)) (oks_more rp (oks_one r))))
end Go.Proofs.YtllalpnmagpkfaaGreatDoor

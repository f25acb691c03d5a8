/- The powers of ten and the raw unit, opened; CodeTexts: the call of the law. Own text. -/
import Derived.Test.YtllalpnmagpkfaaGreatDoorY11
import Derived.Test.YtllalpnmagpkfaaGreatDoorS3
import Derived.Lib.LaidTab
set_option linter.unusedVariables false
set_option linter.unusedSimpArgs false
namespace Go.Proofs.YtllalpnmagpkfaaGreatDoor
open Go.ChangeShapes Go.WideShapes Go.ChangeAt Go.RowKit Go.Flow Go.Mem Go.Sep
theorem varc_of {P : Program} {W : World} {name : String} {g : Nat} {cs : Array Value} (hg : P.globalNamed name = some g) (hv : W.var? P name = some cs) : (varc g cs).holds W := by
 unfold World.var? at hv
 rw [hg] at hv
 have hv2 : (match W.heap[g]? with | some (.cells cs _ _) => some cs | _ => none) = some cs := hv
 split at hv2
 · rename_i cs' t f heq
   cases hv2
   exact ⟨t, f, heq⟩
 · cases hv2
set_option maxRecDepth 100000 in
theorem p10_holds {W : World} (h : laidMetH Tryz.prog laidT W) : p10c.holds W := by
 rw [MakeChecks.laidMetH_plain _ _ _ (by kernel_rfl)] at h
 obtain ⟨ps, hL, _⟩ := h
 obtain ⟨_, _, _, _, _, _, _, _, _, _, hL, _⟩ := hL
 obtain ⟨_, _, _, _, _, _, _, _, _, _, hL, _⟩ := hL
 obtain ⟨g0, t0, cs0, f0, p0, q0, hg0, ht0, hv0, hd0, _, _⟩ := hL
 obtain rfl := Option.some.inj ((show Tryz.prog.globalNamed "internal/strconv.uint64pow10" = some 1 by kernel_rfl).symm.trans hg0)
 obtain rfl := Option.some.inj ((show (Tryz.prog.globals[1]?).map (·.type) = some 382 by kernel_rfl).symm.trans ht0)
 rw [show (Rows.laid_internal_strconv_uint64pow10 : DataW Unit) = Lib.tabData .u64 Lib.pow10Tab by kernel_rfl] at hd0
 have hc := Lib.cells_of_tab Tryz.underlying382 Tryz.underlying227 (by kernel_rfl) (by kernel_rfl) hd0
 have hcs : cs0 = (Lib.pow10Tab.map fun z => Value.int .u64 z).toArray := by rw [← hc, Array.toArray_toList]
 have hv := varc_of hg0 hv0
 rw [hcs] at hv
 exact hv
section
variable {H : Type} {ench : TypeId × Value → H} {w : World} {base : Nat} {spare : Nat → Bool} {held : Bool}
set_option maxRecDepth 100000 in
theorem open_raw {r : Reach} {b0 : Nat} {v : Value} {d : DataW H} {ps : List MemPlace} (hval : Value.okWide Tryz.prog w r b0 50 v) (hd : DataW.Trod ench Tryz.prog w base spare held 50 v d ps) :
    ∃ (p s : Nat) (A : Option Addr) (l : List Sp) (q : Nat), v = .agg #[.int .u8 ((p : Nat) : Int), .int .u8 ((s : Nat) : Int), .slice A l.length q] ∧ p < 256 ∧ s < 256 ∧ (ros Sp.cells A l).holds w ∧ ∀ e ∈ l, okSp e := by
 simp only [Value.okWide, Tryz.underlying50] at hval
 obtain ⟨cs, rfl, hsz, _⟩ := hval
 obtain ⟨fuel, hf⟩ := hd
 have hl : cs.toList.length = 3 := by rw [Array.length_toList, hsz]; kernel_rfl
 have hf2 : DataW.trod ench Tryz.prog w base spare held fuel 50 cs.toList = some (d, ps) := hf
 obtain ⟨l⟩ := cs
 match l, hl with
 | [c0, c1, c2], _ =>
   obtain ⟨_, _, g0⟩ := open_fields Tryz.underlying50 hf2 0 _ rfl (by kernel_rfl) (c := c0) rfl
   obtain ⟨_, _, g1⟩ := open_fields Tryz.underlying50 hf2 1 _ rfl (by kernel_rfl) (c := c1) rfl
   obtain ⟨_, _, g2⟩ := open_fields Tryz.underlying50 hf2 2 _ rfl (by kernel_rfl) (c := c2) rfl
   obtain ⟨n0, e0, _, w0⟩ := DataW.trod_int Tryz.underlying5 g0
   obtain ⟨n1, e1, _, w1⟩ := DataW.trod_int Tryz.underlying5 g1
   obtain ⟨A, l, q, e2, r2, k2⟩ := open_spoils g2
   have b0 := bounds_u8 w0
   have b1 := bounds_u8 w1
   simp only [List.cons.injEq, and_true] at e0 e1 e2
   subst e0 e1 e2
   exact ⟨n0.toNat, n1.toNat, A, l, q, by rw [Int.toNat_of_nonneg b0.1, Int.toNat_of_nonneg b1.1], by omega, by omega, r2, k2⟩
end
theorem texts_law {w : World} {p : Pl} (hp : p.Ok) {k : Nat} (hk : k < 256) {pr ss : Nat} {A : Option Addr} {l : List Sp} {q : Nat} (hpr : pr < 256) (hss : ss < 256) (hl : ∀ e ∈ l, okSp e) (r : (ros Sp.cells A l).holds w) (rp : (all p.kids).holds w) (g : oks [glc, tabC] w) (g10 : p10c.holds w) :
    Calls Tryz.prog 4 #[.agg #[.int .u8 ((p.flags : Nat) : Int), .slice p.Al p.links.length p.ql, .slice p.Ac p.comps.length p.qc], .int .u8 ((k : Nat) : Int), .agg #[.int .u8 ((pr : Nat) : Int), .int .u8 ((ss : Nat) : Int), .slice A l.length q]] w fun e w' => e = .returned (.bool true) ∧ Ext w w' :=
 Does.law (texts_fn p hp k hk pr ss A q l hpr hss hl) (by show owns p.kids ++ [] = []; rw [(Pl.lax p).owns]; rfl) (oks_more (g _ (by simp)) (oks_more (g _ (by simp)) (oks_more g10 (oks_more rp (oks_one r)))))
end Go.Proofs.YtllalpnmagpkfaaGreatDoor

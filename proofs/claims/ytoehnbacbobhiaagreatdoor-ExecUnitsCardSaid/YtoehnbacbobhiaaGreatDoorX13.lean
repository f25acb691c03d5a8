/- The listed variable, opened: the table of the operations. Own text. -/
import Derived.Test.YtoehnbacbobhiaaGreatDoorX12
import Derived.Test.YtoehnbacbobhiaaGreatDoorRows
import Derived.LaidMore
import Derived.MakeChecks
import Derived.OpenShut
set_option linter.unusedVariables false
set_option linter.unusedSimpArgs false
namespace Go.Proofs.YtoehnbacbobhiaaGreatDoor
open Go.ChangeShapes Go.WideShapes Go.ChangeAt Go.RowKit Go.Flow Go.Mem Go.Sep
def Rw.toD {H : Type} (r : Rw) : DataW H := .agg [.lit (.string r.text.data.toList), .lit (.string r.uses.data.toList), .lit (.int .i64 r.pops), .lit (.int .i64 r.pushes)]
theorem laid_tab : (Rows.laid_rootcause_code_rows : DataW Unit) = .agg (rowTab.map Rw.toD) := by kernel_rfl
theorem bytes_eq {a b : ByteArray} (h : a.data.toList = b.data.toList) : a = b := by
  cases a with
  | mk a => cases b with
    | mk b => simp only [ByteArray.mk.injEq]; exact Array.toList_inj.1 h
section
variable {H : Type} {ench : TypeId × Value → H} {w : World} {base : Nat} {spare : Nat → Bool} {held : Bool}
set_option maxRecDepth 100000 in
theorem open_row {fuel : Nat} {cs : List Value} {x : DataW H × List MemPlace} (h : DataW.trod ench Tryz.prog w base spare held fuel 123 cs = some x) (hl : cs.length = 4) {r : Rw} (hx : x.1 = r.toD) : cs = r.cells := by
  match cs, hl with
  | [c0, c1, c2, c3], _ =>
    obtain ⟨xs, n, _, he, _, hxl, hfs⟩ := DataW.trod_struct Tryz.underlying123 h
    rw [he] at hx
    have hxl : xs.length = 4 := hxl
    match xs, hxl with
    | [y0, y1, y2, y3], _ =>
      simp only [Rw.toD, List.map_cons, List.map_nil, DataW.agg.injEq, List.cons.injEq, and_true] at hx
      obtain ⟨a0, a1, a2, a3⟩ := hx
      have g0 := hfs 0 _ rfl
      have g1 := hfs 1 _ rfl
      have g2 := hfs 2 _ rfl
      have g3 := hfs 3 _ rfl
      obtain ⟨s0, b0, d0, _⟩ := DataW.trod_string Tryz.underlying9 (show DataW.trod ench Tryz.prog w base spare held n 9 [c0] = some y0 from g0)
      obtain ⟨s1, b1, d1, _⟩ := DataW.trod_string Tryz.underlying9 (show DataW.trod ench Tryz.prog w base spare held n 9 [c1] = some y1 from g1)
      obtain ⟨s2, b2, d2, _⟩ := DataW.trod_int Tryz.underlying3 (show DataW.trod ench Tryz.prog w base spare held n 3 [c2] = some y2 from g2)
      obtain ⟨s3, b3, d3, _⟩ := DataW.trod_int Tryz.underlying3 (show DataW.trod ench Tryz.prog w base spare held n 3 [c3] = some y3 from g3)
      rw [d0] at a0; rw [d1] at a1; rw [d2] at a2; rw [d3] at a3
      simp only [DataW.lit.injEq, Lit.string.injEq, Lit.int.injEq, true_and] at a0 a1 a2 a3
      simp only [List.cons.injEq, and_true] at b0 b1 b2 b3
      rw [b0, b1, b2, b3, bytes_eq a0, bytes_eq a1, a2, a3]
      rfl
end
theorem gRows : Tryz.prog.globalNamed "rootcause/code.rows" = some 0 := by kernel_rfl
theorem tRows : (Tryz.prog.globals[0]?).map (·.type) = some 156 := by kernel_rfl
set_option maxRecDepth 100000 in
theorem tab_holds {W : World} (h : laidMetH Tryz.prog [("rootcause/code.rows", Rows.laid_rootcause_code_rows)] W) : tabC.holds W := by
  rw [MakeChecks.laidMetH_plain _ _ _ (by kernel_rfl)] at h
  obtain ⟨ps, ⟨g0, t0, cs0, f0, p0, q0, hg0, ht0, hv0, hd0, _⟩, _, _⟩ := h
  obtain rfl := Option.some.inj (gRows.symm.trans hg0)
  obtain rfl := Option.some.inj (tRows.symm.trans ht0)
  obtain ⟨xs, m, _, he, hlen, hxl, hel⟩ := DataW.trod_array Tryz.underlying156 hd0
  simp only [Prod.mk.injEq] at he
  have he1 := he.1
  rw [laid_tab] at he1
  simp only [DataW.agg.injEq] at he1
  have c4 : Tryz.prog.cellsOf 123 = 4 := by kernel_rfl
  have c140 : Tryz.prog.cellsOf 156 = 140 := by kernel_rfl
  rw [c140] at hlen
  rw [c4] at hel
  refine .inr ⟨0, 0, rfl, fun k v hv => ?_⟩
  obtain ⟨i, j, a, hk, hi, hj⟩ := flat_at encRw.len rowTab k v hv
  have hi35 : i < 35 := (List.getElem?_eq_some_iff.1 hi).1
  have hj4 : j < 4 := (List.getElem?_eq_some_iff.1 hj).1
  have h1 := hel i hi35
  have hxi : i < xs.length := by rw [hxl]; exact hi35
  rw [List.getElem?_eq_getElem hxi] at h1
  have h2 : xs[i].1 = a.toD := by
    have h3 : (rowTab.map Rw.toD)[i]? = (xs.map (·.1))[i]? := by rw [he1]
    rw [List.getElem?_map, List.getElem?_map, hi, List.getElem?_eq_getElem hxi] at h3
    simpa using h3.symm
  have h3 := open_row h1 (by rw [List.length_take, List.length_drop, hlen]; omega) h2
  have h4 := World.var?_cell hg0 hv0 k
  show W.cell? ⟨0, 0 + k, none⟩ = some v
  rw [Nat.zero_add, h4, ← Array.getElem?_toList, hk]
  have h5 : ((cs0.toList.drop (i * 4)).take 4)[j]? = some v := by rw [h3]; exact hj
  rw [List.getElem?_take_of_lt hj4, List.getElem?_drop] at h5
  exact h5
end Go.Proofs.YtoehnbacbobhiaaGreatDoor

/- The statement InterveneOrdersSaid: the law returns true for every input. Own text, after the guide's shell. -/
import Derived.Test.YtnghonabedcacaaRows
import Derived.Test.YtnghonabedcacaaI8
namespace Go.Proofs.Ytnghonabedcacaa.ordersDone
open Go.ChangeShapes Go.WideShapes Go.ChangeAt Go.RowKit Go.Flow Go.Mem Go.Sep

theorem own : ownKnob Try.prog.godebug = none := by kernel_rfl
theorem laidOut : laidOutB Try.prog = true := by kernel_rfl
theorem readable : ∀ t ∈ ([25, 25, 25] : List TypeId), Try.prog.readableRec t = true ∧ t < Try.prog.types.size := by
  intro t ht
  simp only [List.mem_cons, List.not_mem_nil, or_false] at ht
  rcases ht with rfl | rfl | rfl <;> exact ⟨by kernel_rfl, of_decide_eq_true (by kernel_rfl)⟩

set_option maxRecDepth 100000 in
theorem lifted (os : Os) (started : os.Started) (H : Type) (ench : TypeId × Value → H) :
    ReturnsInHanded {} Try.checked os 3 .any (Rows.interveneOrdersSpec.pre6 ench Try.prog Try.f3 Rows.interveneOrdersRow.domain false) (Rows.interveneOrdersSpec.post ench Try.prog Try.f3 false true false false) := by
  refine returnsInHanded_of_change (C := Try.checked) own started (by kernel_rfl) Try.func3
    (ChangeSpec.witness6 (enc := ench) (C := Try.checked) false ⟨#[], #[.agg #[.slice none 0 0, .slice none 0 0], .agg #[.slice none 0 0, .slice none 0 0], .agg #[.slice none 0 0, .slice none 0 0]], []⟩ 8 (by kernel_rfl) (by kernel_rfl) (by kernel_rfl) (by kernel_rfl)) ?_
  intro W base args ds gs before hval0 hW hcnd _
  have hval : ∀ (j : Nat) t v, Try.f3.params[j]? = some t → args[j]? = some v → Value.okWide Try.prog W .any base t v := hval0
  have hW' := hW
  obtain ⟨p, q, hA0, hV, rfl, hfz, hnd⟩ := hW
  have hA : DataW.TrodAll ench Try.prog W 0 (fun _ => true) true Try.f3.params.toList args.toList ds p := hA0
  rw [Try.params3] at hA hval
  have hAll := hA
  obtain ⟨v0, vs0, d0, ds0, p0, q0, hargs, rfl, rfl, h0, r0⟩ := trodAll_cons hA
  obtain ⟨v1, vs1, d1, ds1, p1, q1, rfl, rfl, rfl, h1, r1⟩ := trodAll_cons r0
  obtain ⟨v2, vs2, d2, ds2, p2, q2, rfl, rfl, rfl, h2, r2⟩ := trodAll_cons r1
  obtain ⟨rfl, rfl, rfl⟩ := trodAll_nil r2
  obtain rfl : args = #[v0, v1, v2] := by cases args; simp_all
  obtain ⟨rfl, rfl⟩ := trodVars_none hV
  clear hA hargs hA0 hval0 hcnd
  obtain ⟨A0, B0, a0, b0, p0, x0, rfl, hp0, hx0, hr0, hs0⟩ := open_iv (hval 0 25 v0 rfl rfl) h0
  obtain ⟨A1, B1, a1, b1, p1, x1, rfl, hp1, hx1, hr1, hs1⟩ := open_iv (hval 1 25 v1 rfl rfl) h1
  obtain ⟨A2, B2, a2, b2, p2, x2, rfl, hp2, hx2, hr2, hs2⟩ := open_iv (hval 2 25 v2 rfl rfl) h2
  refine Calls.mono (Does.law (orders_fn A0 B0 A1 B1 A2 B2 a0 b0 a1 b1 a2 b2 p0 p1 p2 x0 x1 x2 hp0 hx0 hp1 hx1 hp2 hx2) rfl (oks6 hr0 hs0 hr1 hs1 hr2 hs2)) fun e W' ⟨he, bel⟩ => ?_
  subst he
  have bel := bel.toBelow
  exact ⟨_, rfl, _, _, _, [], _, [], hW', trodAll_mk1 (shut_bool Try.underlying4 _), below_trodAll laidOut bel readable hAll, rfl, bel.frame _, fun h => by cases h⟩

theorem over : Rows.interveneOrdersRow.holds Try.pinned (OpenSpec.ofChange Rows.interveneOrdersSpec) :=
  OpenClaim.holds_of_wide 3 Try.f3 rfl rfl rfl rfl rfl rfl rfl ⟨rfl, rfl, rfl, rfl, rfl⟩ rfl rfl rfl rfl rfl (by kernel_rfl) Try.func3 (by kernel_rfl)
    (of_decide_eq_true (by kernel_rfl)) (by unfold Func.isWrapper; first | (rw [if_pos (by decide +kernel)]; kernel_rfl) | (rw [if_neg (by decide +kernel)]; exact ⟨rfl, rfl⟩))
    (fun os started H ench _ => lifted os started H ench)

/-- The statement. -/
theorem proved : Rows.InterveneOrdersSaid := over
end Go.Proofs.Ytnghonabedcacaa.ordersDone

/- The statement TraceEventsSaid: the law returns true for every input. Own text, after the guide's shell. -/
import Derived.Test.YtneimfacccgaeaaRows
import Derived.Test.YtneimfacccgaeaaV18
namespace Go.Proofs.Ytneimfacccgaeaa.eventsDone
open Go.ChangeShapes Go.WideShapes Go.ChangeAt Go.RowKit Go.Flow Go.Mem Go.Sep

theorem own : ownKnob Try.prog.godebug = none := by kernel_rfl
theorem laidOut : laidOutB Try.prog = true := by kernel_rfl
theorem readable : ∀ t ∈ ([37, 37, 37] : List TypeId), Try.prog.readableRec t = true ∧ t < Try.prog.types.size := by
  intro t ht
  simp only [List.mem_cons, List.not_mem_nil, or_false] at ht
  rcases ht with rfl | rfl | rfl <;> exact ⟨by kernel_rfl, of_decide_eq_true (by kernel_rfl)⟩

set_option maxRecDepth 100000 in
theorem lifted (os : Os) (started : os.Started) (H : Type) (ench : TypeId × Value → H) :
    ReturnsInHanded {} Try.checked os 5 .any (Rows.traceEventsSpec.pre6 ench Try.prog Try.f5 Rows.traceEventsRow.domain false) (Rows.traceEventsSpec.post ench Try.prog Try.f5 false true false false) := by
  refine returnsInHanded_of_change (C := Try.checked) own started (by kernel_rfl) Try.func5
    (ChangeSpec.witness6 (enc := ench) (C := Try.checked) false ⟨#[], #[.agg #[.int .i64 0, .int .i64 0, .int .u8 0, .int .i64 0, .int .i64 0, .int .i64 0, .int .i64 0, .int .i64 0, .slice none 0 0], .agg #[.int .i64 0, .int .i64 0, .int .u8 0, .int .i64 0, .int .i64 0, .int .i64 0, .int .i64 0, .int .i64 0, .slice none 0 0], .agg #[.int .i64 0, .int .i64 0, .int .u8 0, .int .i64 0, .int .i64 0, .int .i64 0, .int .i64 0, .int .i64 0, .slice none 0 0]], []⟩ 8 (by kernel_rfl) (by kernel_rfl) (by kernel_rfl) (by kernel_rfl)) ?_
  intro W base args ds gs before hval0 hW hcnd _
  have hval : ∀ (j : Nat) t v, Try.f5.params[j]? = some t → args[j]? = some v → Value.okWide Try.prog W .any base t v := hval0
  have hW' := hW
  obtain ⟨p, q, hA0, hV, rfl, hfz, hnd⟩ := hW
  have hA : DataW.TrodAll ench Try.prog W 0 (fun _ => true) true Try.f5.params.toList args.toList ds p := hA0
  rw [Try.params5] at hA hval
  have hAll := hA
  obtain ⟨v0, vs0, d0, ds0, p0, q0, hargs, rfl, rfl, h0, r0⟩ := trodAll_cons hA
  obtain ⟨v1, vs1, d1, ds1, p1, q1, rfl, rfl, rfl, h1, r1⟩ := trodAll_cons r0
  obtain ⟨v2, vs2, d2, ds2, p2, q2, rfl, rfl, rfl, h2, r2⟩ := trodAll_cons r1
  obtain ⟨rfl, rfl, rfl⟩ := trodAll_nil r2
  obtain rfl : args = #[v0, v1, v2] := by cases args; simp_all
  obtain ⟨rfl, rfl⟩ := trodVars_none hV
  clear hA hargs hA0 hval0 hcnd
  obtain ⟨a, hea, hoka, hra⟩ : ∃ e : Ev, v0 = .agg e.cells.toArray ∧ e.ok ∧ (ros encI e.A e.args).holds W := open_event (hval 0 37 v0 rfl rfl) h0
  subst hea
  obtain ⟨b, heb, hokb, hrb⟩ : ∃ e : Ev, v1 = .agg e.cells.toArray ∧ e.ok ∧ (ros encI e.A e.args).holds W := open_event (hval 1 37 v1 rfl rfl) h1
  subst heb
  obtain ⟨c, hec, hokc, hrc⟩ : ∃ e : Ev, v2 = .agg e.cells.toArray ∧ e.ok ∧ (ros encI e.A e.args).holds W := open_event (hval 2 37 v2 rfl rfl) h2
  subst hec
  refine Calls.mono (Does.law (events_fn a b c hoka hokb hokc) rfl (oks_one (args3 hra hrb hrc))) fun e W' ⟨he, bel⟩ => ?_
  subst he
  have bel := bel.toBelow
  exact ⟨_, rfl, _, _, _, [], _, [], hW', trodAll_mk1 (shut_bool Try.underlying4 _), below_trodAll laidOut bel readable hAll, rfl, bel.frame _, fun h => by cases h⟩

theorem over : Rows.traceEventsRow.holds Try.pinned (OpenSpec.ofChange Rows.traceEventsSpec) :=
  OpenClaim.holds_of_wide 5 Try.f5 rfl rfl rfl rfl rfl rfl rfl ⟨rfl, rfl, rfl, rfl, rfl⟩ rfl rfl rfl rfl rfl (by kernel_rfl) Try.func5 (by kernel_rfl)
    (of_decide_eq_true (by kernel_rfl)) (by unfold Func.isWrapper; first | (rw [if_pos (by decide +kernel)]; kernel_rfl) | (rw [if_neg (by decide +kernel)]; exact ⟨rfl, rfl⟩))
    (fun os started H ench _ => lifted os started H ench)

/-- The statement. -/
theorem proved : Rows.TraceEventsSaid := over
end Go.Proofs.Ytneimfacccgaeaa.eventsDone

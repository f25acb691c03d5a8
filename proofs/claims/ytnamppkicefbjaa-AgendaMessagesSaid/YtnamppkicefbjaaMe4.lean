/- The statement AgendaMessagesSaid: the law returns true for every input. Own text, after the guide's shell. -/
import Derived.Test.YtnamppkicefbjaaRows
import Derived.Test.YtnamppkicefbjaaSeps
import Derived.Test.YtnamppkicefbjaaMe3
namespace Go.Proofs.Ytnamppkicefbjaa.messagesDone
open Go.ChangeShapes Go.WideShapes Go.ChangeAt Go.RowKit Go.Flow Go.Mem Go.Sep

theorem own : ownKnob Try.prog.godebug = none := by kernel_rfl
theorem laidOut : laidOutB Try.prog = true := by kernel_rfl
theorem readable : ∀ t ∈ ([65, 5] : List TypeId), Try.prog.readableRec t = true ∧ t < Try.prog.types.size := by
  intro t ht
  simp only [List.mem_cons, List.not_mem_nil, or_false] at ht
  rcases ht with rfl | rfl <;> exact ⟨by kernel_rfl, of_decide_eq_true (by kernel_rfl)⟩

set_option maxRecDepth 100000 in
theorem lifted (os : Os) (started : os.Started) (H : Type) (ench : TypeId × Value → H) :
    ReturnsInHanded {} Try.checked os 10 .any (Rows.agendaMessagesSpec.pre6 ench Try.prog Try.f10 Rows.agendaMessagesRow.domain false) (Rows.agendaMessagesSpec.post ench Try.prog Try.f10 false true false false) := by
  refine returnsInHanded_of_change (C := Try.checked) own started (by kernel_rfl) Try.func10
    (ChangeSpec.witness6 (enc := ench) (C := Try.checked) false ⟨#[], #[.slice none 0 0, .int .u8 0], []⟩ 8 (by kernel_rfl) (by kernel_rfl) (by kernel_rfl) (by kernel_rfl)) ?_
  intro W base args ds gs before hval0 hW hcnd _
  have hval : ∀ (j : Nat) t v, Try.f10.params[j]? = some t → args[j]? = some v → Value.okWide Try.prog W .any base t v := hval0
  have hW' := hW
  obtain ⟨p, q, hA0, hV, rfl, hfz, hnd⟩ := hW
  have hA : DataW.TrodAll ench Try.prog W 0 (fun _ => true) true Try.f10.params.toList args.toList ds p := hA0
  rw [Try.params10] at hA hval
  have hAll := hA
  obtain ⟨v0, vs0, d0, ds0, p0, q0, hargs, rfl, rfl, h0, r0⟩ := trodAll_cons hA
  obtain ⟨v1, vs1, d1, ds1, p1, q1, rfl, rfl, rfl, h1, r1⟩ := trodAll_cons r0
  obtain ⟨rfl, rfl, rfl⟩ := trodAll_nil r1
  obtain rfl : args = #[v0, v1] := by cases args; simp_all
  obtain ⟨rfl, rfl⟩ := trodVars_none hV
  clear hA hargs hA0 hval0 hcnd
  obtain ⟨a0, len0, cap0, rfl⟩ := okWide_slice Try.underlying65 (hval 0 65 v0 rfl rfl)
  obtain ⟨A, sends, cap, hcs, hr, hu, hlc, hcm⟩ : ∃ (A : Option Addr) (l : List Int) (cap : Nat), [Value.slice a0 len0 cap0] = [.slice A l.length cap] ∧ Src W A (l.flatMap encU) ∧ (∀ s ∈ l, 0 ≤ s ∧ s < 256) ∧ l.length ≤ cap ∧ cap ≤ maxLen := by
    obtain ⟨fuel, hf⟩ := h0
    exact open_list (enc := encU) (size := 1) (fun _ => rfl) (by decide) (fun s => 0 ≤ s ∧ s < 256) Try.underlying65 (by kernel_rfl) (fun n cs' x' h' _ => by
      obtain ⟨k, rfl, _, hw⟩ := DataW.trod_int Try.underlying5 h'
      exact ⟨k, rfl, by have := bounds_u8 hw; omega⟩) hf
  simp only [List.cons.injEq, Value.slice.injEq, and_true] at hcs
  obtain ⟨rfl, rfl, rfl⟩ := hcs
  unfold maxLen at hcm
  obtain ⟨a1, rfl, rfl, rfl, w1⟩ := open_int Try.underlying5 (hval 1 5 v1 rfl rfl) h1
  have hb := bounds_u8 w1
  refine Calls.mono (Does.law (messages_fn a0 cap0 sends a1 hu (by omega) (by omega)) rfl (oks_one hr)) fun e W' ⟨he, bel⟩ => ?_
  subst he
  exact ⟨_, rfl, _, _, _, [], _, [], hW', trodAll_mk1 (shut_bool Try.underlying4 _), below_trodAll laidOut bel readable hAll, rfl, bel.frame _, fun h => by cases h⟩

theorem over : Rows.agendaMessagesRow.holds Try.pinned (OpenSpec.ofChange Rows.agendaMessagesSpec) :=
  OpenClaim.holds_of_wide 10 Try.f10 rfl rfl rfl rfl rfl rfl rfl ⟨rfl, rfl, rfl, rfl, rfl⟩ rfl rfl rfl rfl rfl (by kernel_rfl) Try.func10 (by kernel_rfl)
    (of_decide_eq_true (by kernel_rfl)) (by unfold Func.isWrapper; first | (rw [if_pos (by decide +kernel)]; kernel_rfl) | (rw [if_neg (by decide +kernel)]; exact ⟨rfl, rfl⟩))
    (fun os started H ench _ => lifted os started H ench)

/-- The statement. -/
theorem proved : Rows.AgendaMessagesSaid := over
end Go.Proofs.Ytnamppkicefbjaa.messagesDone

/- A call that owns nothing: new blocks and draws, nothing else. Own text. -/
import Derived.Test.YtneimfacccgaeaaSeps
import Derived.Sort.Grow
import Derived.Deep.Draws
namespace Go.Sep
open Go.RowKit Go.Flow Go.Mem

theorem grown_of_keeps {X : Nat → Prop} {w w' : World} (h : Keeps X w w') (hx : ∀ g, g < w.heap.size → ¬ X g) : ∃ q os, w' = Go.Sort.grow (w.drewN q) os := by
  refine ⟨w'.drawn - w.drawn, w'.heap.extract w.heap.size w'.heap.size, ?_⟩
  have hd := h.drawn
  have hh : w'.heap = w.heap ++ w'.heap.extract w.heap.size w'.heap.size := by
    have h0 : w.heap = w'.heap.extract 0 w.heap.size := by
      apply Array.ext_getElem?
      intro i
      by_cases hi : i < w.heap.size
      · rw [← h.block i hi (hx i hi), Array.getElem?_extract]
        have := h.size
        simp [hi, Nat.min_eq_left this]
      · rw [Array.getElem?_eq_none (by omega), Array.getElem?_eq_none (by simp; omega)]
    conv => rhs; lhs; rw [h0]
    rw [Array.extract_append_extract]
    have := h.size
    simp [Nat.max_eq_right this]
  have h1 := h.os; have h2 := h.tape; have h3 := h.output
  obtain ⟨hp, tp, dr, os, ou⟩ := w
  obtain ⟨hp', tp', dr', os', ou'⟩ := w'
  simp only [Go.Sort.grow, World.drewN] at *
  subst h1 h2 h3
  simp only [World.mk.injEq, true_and, and_true]
  exact ⟨hh, by omega⟩
theorem Does.grown {P : Program} {f : FuncId} {args : List Value} {Γ : List Chunk} {R : Value → List Chunk → Prop} {w : World} (h : Does P f args Γ R) (hq : owns Γ = []) (hs : oks Γ w) : Calls P f args.toArray w fun e w' => ∃ v Γ', e = .returned v ∧ R v Γ' ∧ ∃ q os, w' = Go.Sort.grow (w.drewN q) os :=
  (h w (sat_of_oks hq hs)).mono fun e w' ⟨v, Γ', h1, h2, h3⟩ => ⟨v, Γ', h1, h2, grown_of_keeps h3.keeps fun g _ hg => by rw [hq] at hg; cases hg⟩
end Go.Sep

/- What is drawn only grows. Own text. -/
import Derived.Test.YtoehnbacbobhiaaDoorFlow
namespace Go.Sep

theorem view_drawn {P : Program} {w w' : World} {a c : Addr} {u : TypeId} {v : Value} {at_ : Bool} {l : List Addr} (h : w.viewStore P a u c v at_ = .ok (w', l)) : w'.drawn = w.drawn := by
  unfold World.viewStore at h
  simp only [bind, Except.bind, pure, Except.pure] at h
  repeat' split at h
  all_goals first | (cases h; done) | (cases h; rfl)
theorem far_drawn {P : Program} {w w' : World} {a : Addr} {v : Value} {at_ : Bool} {l : List Addr} (h : w.farStore P a v at_ = .ok (w', l)) : w'.drawn = w.drawn := by
  unfold World.farStore at h
  split at h
  · split at h
    · rename_i hv
      cases h
      exact view_drawn hv
    · cases h
  · cases h
theorem ask_drawn {α : Type} : ∀ (x : Ask α) (w : World), w.drawn ≤ (w.ask x).2.drawn := by
  intro x
  induction x with
  | done a => intro w; exact Nat.le_refl _
  | ask what range k ih =>
    intro w
    unfold World.ask
    dsimp only
    split
    · exact ih _ _
    · exact Nat.le_trans (Nat.le_succ w.drawn) (ih _ { w with drawn := w.drawn + 1 })
theorem sys_drawn (w : World) (c : Sys) : w.drawn ≤ (w.sys c).2.drawn := by
  have h := ask_drawn (Kernel.perform c w.os) w
  unfold World.sys
  split
  · exact Nat.le_refl _
  · rename_i e
    rw [e] at h
    exact h

theorem run_drawn {α : Type} {P : Program} (x : Sem α) : ∀ (w w' : World) (a : α), x.run P w = .ok a w' → w.drawn ≤ w'.drawn := by
  induction x with
  | pure a => intro w w' b h; simp only [Sem.run, Result.ok.injEq] at h; rw [h.2]; exact Nat.le_refl _
  | load m a k ih =>
    intro w w' b h
    unfold Sem.run at h
    split at h
    · exact ih _ _ _ _ h
    · split at h
      · exact ih _ _ _ _ h
      · cases h
  | store m a v k ih =>
    intro w w' b h
    have key : (match w.cell? a with
        | some _ => if w.frozen? a then Result.halt (.unsupported (.unsafePointer "a write to bytes that a string shares")) w else k.run P (w.setCell a v)
        | none => match w.farStore P a v (m == .atomic) with
          | .ok (w, _) => k.run P w
          | .error h => .halt h w) = Result.ok b w' → w.drawn ≤ w'.drawn := fun h => by
      split at h
      · split at h
        · cases h
        · have t := ih _ _ _ h
          exact t
      · split at h
        · rename_i hf
          have t := ih _ _ _ h
          rw [far_drawn hf] at t
          exact t
        · cases h
    cases v <;> first | exact key h | (simp only [Sem.run] at h; cases h; done)
  | new o k ih => intro w w' b h; unfold Sem.run at h; have t := ih _ _ _ _ h; exact t
  | shape r k ih => intro w w' b h; unfold Sem.run at h; exact ih _ _ _ _ h
  | freeze a n k ih =>
    intro w w' b h; unfold Sem.run at h
    have := ih _ _ _ h
    have e : (w.freeze a n).drawn = w.drawn := by unfold World.freeze; split <;> rfl
    omega
  | frozen a k ih => intro w w' b h; unfold Sem.run at h; exact ih _ _ _ _ h
  | getObj r k ih =>
    intro w w' b h; unfold Sem.run at h
    split at h
    · cases h
    · exact ih _ _ _ _ h
    · cases h
  | setObj r o k ih =>
    intro w w' b h; unfold Sem.run at h
    split at h
    · cases h
    · have t := ih _ _ _ h
      exact t
    · cases h
  | choose q k ih =>
    intro w w' b h; unfold Sem.run at h
    split at h
    · exact ih _ _ _ _ h
    · have := ih _ _ _ _ h
      simp at this; omega
  | sys c k ih =>
    intro w w' b h; unfold Sem.run at h
    have t := ih _ _ _ _ h
    exact Nat.le_trans (sys_drawn w c) t
  | program k ih => intro w w' b h; unfold Sem.run at h; exact ih _ _ _ _ h
  | mark m k ih => intro w w' b h; unfold Sem.run at h; exact ih _ _ _ h
  | halt x => intro w w' b h; unfold Sem.run at h; cases h
end Go.Sep

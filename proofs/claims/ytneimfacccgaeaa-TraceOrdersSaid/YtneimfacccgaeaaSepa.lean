/- Many chunks as one: lists of lists. Own text. -/
import Derived.Test.YtneimfacccgaeaaSeps
namespace Go.Sep
open Go.RowKit Go.Flow Go.Mem

/-- Many chunks as one. -/
def all (cs : List Chunk) : Chunk where
  owns := owns cs
  reads := reads cs
  holds w := sat cs w
  loc w w' h hw := ⟨fun c hc => c.loc w w' (fun g hg => h g (hg.imp (fun x => mem_owns.2 ⟨c, hc, x⟩) (fun x => mem_reads.2 ⟨c, hc, x⟩))) (hw.each c hc), hw.nodup, hw.apart⟩
  lt _ hw _ hg := hg.elim (fun h => hw.lt_own h) (fun h => hw.lt_read h)
theorem owns_all (cs Γ : List Chunk) : owns (all cs :: Γ) = owns (cs ++ Γ) := by rw [owns_append]; rfl
theorem reads_all (cs Γ : List Chunk) : reads (all cs :: Γ) = reads (cs ++ Γ) := by rw [reads_append]; rfl
theorem sat_all {cs Γ : List Chunk} {w : World} : sat (all cs :: Γ) w ↔ sat (cs ++ Γ) w := by
  constructor
  · intro h
    refine ⟨fun c hc => ?_, by rw [← owns_all]; exact h.nodup, by rw [← owns_all, ← reads_all]; exact h.apart⟩
    rcases List.mem_append.1 hc with h1 | h1
    · exact (h.each (all cs) (List.mem_cons_self ..)).each c h1
    · exact h.each c (List.mem_cons_of_mem _ h1)
  · intro h
    refine ⟨fun c hc => ?_, by rw [owns_all]; exact h.nodup, by rw [owns_all, reads_all]; exact h.apart⟩
    rcases List.mem_cons.1 hc with rfl | h1
    · exact h.left
    · exact h.each c (List.mem_append_right _ h1)
section
variable {C : Cx} {ρ : Slots} {Γ : List Chunk} {K : Act → World → Prop} {cs : List Chunk} {c : Chunk}
theorem To.unall (k : To C ρ (cs ++ Γ) K) : To C ρ (all cs :: Γ) K := fun a w ha hq =>
  k a w ha ⟨sat_all.1 hq.sat, hq.keeps, fun g hg => hq.own g (by rw [owns_all]; exact hg), fun g hg => hq.rd g (by rw [reads_all]; exact hg)⟩
theorem To.toall (k : To C ρ (all cs :: Γ) K) : To C ρ (cs ++ Γ) K := fun a w ha hq =>
  k a w ha ⟨sat_all.2 hq.sat, hq.keeps, fun g hg => hq.own g (by rw [← owns_all]; exact hg), fun g hg => hq.rd g (by rw [← reads_all]; exact hg)⟩
/-- One of them is taken out. -/
theorem To.allOut (i : Nat) (hi : cs[i]? = some c) (k : To C ρ (c :: all (cs.eraseIdx i) :: Γ) K) : To C ρ (all cs :: Γ) K := by
  refine To.unall (To.perm ((perm_eraseIdx hi).append_right Γ) ?_)
  refine To.perm (Γ' := cs.eraseIdx i ++ (c :: Γ)) (List.perm_middle.symm) (To.toall (To.perm (List.Perm.swap _ _ _) k))
theorem set_permA {α : Type} {l : List α} {i : Nat} {x y : α} (h : l[i]? = some x) : (y :: l.eraseIdx i).Perm (l.set i y) := by
  have h1 := (List.getElem?_eq_some_iff.1 h).1
  have h2 : (l.set i y)[i]? = some y := by simp [h1]
  have h3 := perm_eraseIdx h2
  rw [List.eraseIdx_set_eq] at h3
  exact h3.symm
/-- .. and another one put in its place. -/
theorem To.allIn {d : Chunk} (i : Nat) (hi : cs[i]? = some c) (k : To C ρ (all (cs.set i d) :: Γ) K) : To C ρ (d :: all (cs.eraseIdx i) :: Γ) K := by
  refine To.perm (List.Perm.swap _ _ _) (To.unall ?_)
  refine To.perm (Γ' := cs.set i d ++ Γ) ((List.perm_middle).trans ((set_permA hi).append_right Γ)) (To.toall k)
theorem To.allPush {d : Chunk} (k : To C ρ (all (cs ++ [d]) :: Γ) K) : To C ρ (d :: all cs :: Γ) K := by
  refine To.perm (List.Perm.swap _ _ _) (To.unall ?_)
  refine To.perm (Γ' := (cs ++ [d]) ++ Γ) (by rw [List.append_assoc]; exact List.Perm.refl _) (To.toall k)
theorem To.allNil (k : To C ρ (all [] :: Γ) K) : To C ρ Γ K := To.free rfl rfl (fun w => sat.nil w) k
end
/-- Many that own nothing. -/
theorem oks_all {Γ cs : List Chunk} (i : Nat) (h : Γ[i]? = some (all cs)) {c : Chunk} (hc : c ∈ cs) : ∀ w, oks Γ w → c.holds w := fun _ hw => sat.each (hw _ (List.mem_of_getElem? h)) c hc
end Go.Sep

/- A region in which two operations wait for one another in neither order: both orders are walked. Own text. -/
import Derived.Test.YtoehnbacbobhiaaDoorSepv
namespace Go.Sep
open Go.RowKit Go.Flow Go.Mem
/-- The operation m waits for p, too. -/
def tie : List Oper → Nat → Nat → List Oper
  | [], _, _ => []
  | o :: l, 0, p => { o with after := o.after.push ⟨p, .data⟩ } :: l
  | o :: l, m + 1, p => o :: tie l m p
theorem tie_len : ∀ (l : List Oper) (m p : Nat), (tie l m p).length = l.length
  | [], _, _ => rfl
  | _ :: _, 0, _ => rfl
  | _ :: l, m + 1, p => by simp [tie, tie_len l m p]
theorem tie_get : ∀ (l : List Oper) (m p i : Nat), (tie l m p)[i]? = (l[i]?).map fun o => if i = m then { o with after := o.after.push ⟨p, .data⟩ } else o
  | [], _, _, _ => by simp [tie]
  | o :: l, 0, p, 0 => by simp [tie]
  | o :: l, 0, p, i + 1 => by simp [tie]
  | o :: l, m + 1, p, 0 => by simp [tie]
  | o :: l, m + 1, p, i + 1 => by simp [tie, tie_get l m p i]
def plainOp (o : Oper) : Bool := match o.op with
  | .move _ | .assign _ | .alloc _ | .box _ _ | .build _ _ | .buildSlice _ _ _ | .load _ _ | .store _ _ _ | .fieldAddr _ _ _ | .binOp _ _ _ _ _ | .indexAddr _ _ _ | .slice _ _ _ _ _ | .convert _ _ _ => true
  | _ => false
theorem plain_value {o : Oper} (hp : plainOp o = true) (ρ : Operand → Value) (P : Program) (w w' : World) : (∀ f args, (execOp ρ o).run P w ≠ .ok (.enter f args) w') ∧ (∀ row args, (execOp ρ o).run P w ≠ .ok (.row row args) w') := by
  have hv : ∀ s : Sem Value, (∀ f args, (do pure (.value (← s)) : Sem Next).run P w ≠ .ok (.enter f args) w') ∧ (∀ row args, (do pure (.value (← s)) : Sem Next).run P w ≠ .ok (.row row args) w') := fun s => by
    simp only [Sem.run_bind]
    cases s.run P w <;> simp [Result.andThen]
  have hu : ∀ s : Sem Unit, (∀ f args, (do s; pure .skip : Sem Next).run P w ≠ .ok (.enter f args) w') ∧ (∀ row args, (do s; pure .skip : Sem Next).run P w ≠ .ok (.row row args) w') := fun s => by
    simp only [Sem.run_bind]
    cases s.run P w <;> simp [Result.andThen]
  unfold plainOp at hp
  unfold execOp
  split at hp <;> rename_i he <;> first | exact absurd hp (by decide) | (simp only [he]; first | exact hv _ | exact hu _ | simp)
theorem OpTo.and_ {P : Program} {ops : Array Oper} {o : Oper} {a : Act} {w : World} {K K' : Value → World → Prop} (hp : plainOp o = true) (h : OpTo P ops o a w K) (h' : OpTo P ops o a w K') : OpTo P ops o a w fun v w' => K v w' ∧ K' v w' := by
  unfold OpTo at *
  split
  · rename_i hw
    rw [if_pos hw] at h h'
    have hq := plain_value hp a.eval P w
    unfold upTo at *
    split
    · rename_i he; rw [he] at h h'; exact ⟨h, h'⟩
    · rename_i he; rw [he] at h h'; exact ⟨h, h'⟩
    · rename_i w' he; exact absurd he ((hq w').1 _ _)
    · rename_i w' he; exact absurd he ((hq w').2 _ _)
    · rename_i h1 h2 h3 h4
      generalize (execOp a.eval o).run P w = r at *
      cases r with
      | ok n w' => cases n <;> first | exact absurd rfl (h1 _ _) | exact absurd rfl (h2 _) | exact absurd rfl (h3 _ _ _) | exact absurd rfl (h4 _ _ _) | exact h
      | halt x w' => exact h
  · rename_i hw
    rw [if_neg hw] at h h'
    exact ⟨h, h'⟩
section
variable {P : Program} {l : List Oper} {Q : Act → World → Prop}
theorem yielded_tie (m p : Nat) (t : Array Value) : yielded (tie l m p).toArray t = yielded l.toArray t := by
  funext j
  unfold yielded
  have : ((tie l m p).toArray[j]?).bind (·.dst) = (l.toArray[j]?).bind (·.dst) := by
    simp only [List.getElem?_toArray, tie_get]
    cases l[j]? with
    | none => rfl
    | some o => simp only [Option.map_some, Option.bind_some]; split <;> rfl
  rw [this]
theorem opI_tie {m p i : Nat} {a : Act} {w : World} {K : Act → World → Prop} (h : OpI P (tie l m p).toArray i K a w) : ∃ o, l[i]? = some o ∧ OpTo P l.toArray o a w fun v w' => K (a.put o.dst v) w' := by
  obtain ⟨o, h1, h2⟩ := h
  simp only [List.getElem?_toArray, tie_get, Option.map_eq_some_iff] at h1
  obtain ⟨o', h3, h4⟩ := h1
  refine ⟨o', h3, ?_⟩
  have e1 : o.dst = o'.dst := by rw [← h4]; split <;> rfl
  have e2 : execOp a.eval o = execOp a.eval o' := by rw [← h4]; split <;> rfl
  have e3 : o.guard = o'.guard := by rw [← h4]; split <;> rfl
  unfold OpTo at *
  have e4 : Region.wanted o' (yielded l.toArray a.tmps) = Region.wanted o (yielded (tie l m p).toArray a.tmps) := by rw [yielded_tie]; unfold Region.wanted; rw [e3]
  rw [e4, ← e2, ← e1]; exact h2
theorem ready_iff {ops : List Oper} {listed : Array Bool} {i : Nat} : i ∈ Region.ready .any ops.toArray listed ↔ listed.getD i true = false ∧ ∃ o, ops[i]? = some o ∧ ∀ e ∈ o.after, Region.binds .any e = true → listed.getD e.on false = true := by
  rw [mem_ready]; simp
theorem ready_tie {m p i : Nat} {listed : Array Bool} : i ∈ Region.ready .any (tie l m p).toArray listed ↔ i ∈ Region.ready .any l.toArray listed ∧ (i = m → listed.getD p false = true) := by
  rw [ready_iff, ready_iff]
  simp only [tie_get, Option.map_eq_some_iff]
  constructor
  · rintro ⟨h1, o, ⟨o', h2, rfl⟩, h3⟩
    by_cases e : i = m
    · rw [if_pos e] at h3
      exact ⟨⟨h1, o', h2, fun e he hb => h3 e (Array.mem_push.2 (.inl he)) hb⟩, fun _ => h3 ⟨p, .data⟩ (Array.mem_push.2 (.inr rfl)) rfl⟩
    · rw [if_neg e] at h3
      exact ⟨⟨h1, o', h2, h3⟩, fun h => absurd h e⟩
  · rintro ⟨⟨h1, o, h2, h3⟩, h4⟩
    refine ⟨h1, _, ⟨o, h2, rfl⟩, ?_⟩
    by_cases e : i = m
    · rw [if_pos e]
      intro d hd hb
      rcases Array.mem_push.1 hd with hd | rfl
      · exact h3 d hd hb
      · exact h4 e
    · rw [if_neg e]; exact h3
theorem listed_set {listed : Array Bool} {i p : Nat} (h : listed.getD p false = true) : (listed.setIfInBounds i true).getD p false = true := by
  rw [Array.getD_eq_getD_getElem?] at *
  rw [Array.getElem?_setIfInBounds]
  by_cases e : i = p
  · rw [if_pos e]; split
    · rfl
    · rename_i hn; rw [← e, Array.getElem?_eq_none (by omega)] at h; cases h
  · rw [if_neg e]; exact h
/-- Where p is done the tie says nothing. -/
theorem any_tied {m p : Nat} : ∀ (fuel : Nat) (listed : Array Bool) (a : Act) (w : World), listed.getD p false = true → AnyI P (tie l m p).toArray Q fuel listed a w → AnyI P l.toArray Q fuel listed a w
  | 0, listed, a, w, hp, h => by
    refine ⟨List.eq_nil_iff_forall_not_mem.2 fun i hi => ?_, h.2⟩
    have h1 := ready_tie (m := m) (p := p).2 ⟨hi, fun _ => hp⟩
    rw [h.1] at h1; cases h1
  | fuel + 1, listed, a, w, hp, h => by
    refine ⟨fun hr => h.1 (List.eq_nil_iff_forall_not_mem.2 fun i hi => ?_), fun i hi => ?_⟩
    · have h1 := (ready_tie.1 hi).1
      rw [hr] at h1; cases h1
    · obtain ⟨o, h1, h2⟩ := opI_tie (h.2 i (ready_tie.2 ⟨hi, fun _ => hp⟩))
      exact ⟨o, by simpa using h1, h2.mono fun v w' hv => any_tied fuel _ _ _ (listed_set hp) hv⟩
theorem listed_own {listed : Array Bool} {i : Nat} (h : listed.getD i true = false) : (listed.setIfInBounds i true).getD i false = true := by
  rw [Array.getD_eq_getD_getElem?] at *
  rw [Array.getElem?_setIfInBounds, if_pos rfl]
  split
  · rfl
  · rename_i hn; rw [Array.getElem?_eq_none (by omega)] at h; cases h
theorem any_split {m p : Nat} (hne : m ≠ p) (hpl : ∀ o ∈ l, plainOp o = true) : ∀ (fuel : Nat) (listed : Array Bool) (a : Act) (w : World), AnyI P (tie l m p).toArray Q fuel listed a w → AnyI P (tie l p m).toArray Q fuel listed a w → listed.getD p false = false → listed.getD m false = false → AnyI P l.toArray Q fuel listed a w
  | 0, listed, a, w, h1, h2, hp, hm => by
    refine ⟨List.eq_nil_iff_forall_not_mem.2 fun i hi => ?_, h1.2⟩
    by_cases e : i = m
    · have := ready_tie (m := p) (p := m).2 ⟨hi, fun e2 => absurd (e.symm.trans e2) hne⟩
      rw [h2.1] at this; cases this
    · have := ready_tie (m := m) (p := p).2 ⟨hi, fun e2 => absurd e2 e⟩
      rw [h1.1] at this; cases this
  | fuel + 1, listed, a, w, h1, h2, hp, hm => by
    refine ⟨fun hr => h1.1 (List.eq_nil_iff_forall_not_mem.2 fun i hi => ?_), fun i hi => ?_⟩
    · have h1 := (ready_tie.1 hi).1
      rw [hr] at h1; cases h1
    · have hl := (ready_iff.1 hi).1
      by_cases em : i = m
      · obtain ⟨o, h3, h4⟩ := opI_tie (h2.2 i (ready_tie.2 ⟨hi, fun e2 => absurd (em.symm.trans e2) hne⟩))
        exact ⟨o, by simpa using h3, h4.mono fun v w' hv => any_tied fuel _ _ _ (by rw [em] at hl ⊢; exact listed_own hl) hv⟩
      · by_cases ep : i = p
        · obtain ⟨o, h3, h4⟩ := opI_tie (h1.2 i (ready_tie.2 ⟨hi, fun e2 => absurd e2 em⟩))
          exact ⟨o, by simpa using h3, h4.mono fun v w' hv => any_tied fuel _ _ _ (by rw [ep] at hl ⊢; exact listed_own hl) hv⟩
        · obtain ⟨o, h3, h4⟩ := opI_tie (h1.2 i (ready_tie.2 ⟨hi, fun e2 => absurd e2 em⟩))
          obtain ⟨o', h3', h4'⟩ := opI_tie (h2.2 i (ready_tie.2 ⟨hi, fun e2 => absurd e2 ep⟩))
          rw [h3] at h3'
          obtain rfl := Option.some.inj h3'
          have hun : ∀ k, i ≠ k → listed.getD k false = false → (listed.setIfInBounds i true).getD k false = false := fun k hk hf => by
            rw [Array.getD_eq_getD_getElem?] at *
            rw [Array.getElem?_setIfInBounds, if_neg hk]; exact hf
          exact ⟨o, by simpa using h3, (OpTo.and_ (hpl o (List.mem_of_getElem? h3)) h4 h4').mono fun v w' ⟨hv, hv'⟩ => any_split hne hpl fuel _ _ _ hv hv' (hun p ep hp) (hun m em hm)⟩
end
section
variable {P : Program} {l : List Oper} {C : Cx} {ρ : Slots} {Γ : List Chunk}
theorem To.flow2 {id : Nat} {R : Exit → Act → World → Prop} (Θ : List Chunk) (m p : Nat) (ms1 ms2 : List Meta) (hm : P.follows .mixedOrders = true) (hne : Nat.beq m p = false) (hpl : l.all plainOp = true) (hB1 : flowB (tie l m p) ms1 = true) (hB2 : flowB (tie l p m) ms2 = true) (hΘ : ∀ w, oks Γ w → oks Θ w)
    (h1 : FlowS P (tie l m p) Θ (R .normal) ms1 C ρ Γ []) (h2 : FlowS P (tie l p m) Θ (R .normal) ms2 C ρ Γ []) : To C ρ Γ ((Code.region id l.toArray true).wp P R) := fun a w ha hp => by
  refine wp_region_any hm (AnyI.any (fun _ _ h => h) _ _ _ _ ?_)
  have hs : ∀ x y, (tie l x y).toArray.size = l.toArray.size := fun x y => by simp [tie_len]
  have g1 := region_flow (l := tie l m p) (oks Θ) ms1 hB1 (fun _ _ => oks_ext) (hΘ w hp.sat.each) (h1 a w [] ha hp trivial)
  have g2 := region_flow (l := tie l p m) (oks Θ) ms2 hB2 (fun _ _ => oks_ext) (hΘ w hp.sat.each) (h2 a w [] ha hp trivial)
  rw [hs] at g1 g2
  have hno : ∀ j, (Array.replicate l.toArray.size false).getD j false = false := fun j => by
    simp only [Array.getD_eq_getD_getElem?, Array.getElem?_replicate]
    split <;> rfl
  exact any_split (fun e => by rw [e, Nat.beq_refl] at hne; cases hne) (fun o ho => List.all_eq_true.1 hpl o ho) _ _ _ _ g1 g2 (hno p) (hno m)
end
end Go.Sep

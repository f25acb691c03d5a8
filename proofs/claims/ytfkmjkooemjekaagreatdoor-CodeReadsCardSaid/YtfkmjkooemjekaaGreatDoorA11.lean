/- The interpreter of known runs: one operation; which function a call enters. Own text. -/
import Derived.Test.YtfkmjkooemjekaaGreatDoorA10
set_option linter.unusedVariables false
set_option linter.unusedSimpArgs false
namespace Go.In
open Go.RowKit Go.Flow Go.Mem Go.Sep
def cls : Op → Nat
  | .move _ => 0
  | .assign _ => 0
  | .pick _ _ _ => 0
  | .extract _ _ => 0
  | .nilCheck _ => 0
  | .binOp _ _ _ _ _ => 1
  | .unOp _ _ _ => 1
  | .fieldAddr _ _ _ => 2
  | .indexAddr _ _ _ => 2
  | .index _ _ _ => 2
  | .field _ _ _ => 2
  | .build _ _ => 2
  | .makeFunc _ _ _ => 2
  | .slice _ _ _ _ _ => 2
  | .load _ _ => 3
  | .store _ _ _ => 4
  | .mapUpdate _ _ _ _ => 4
  | .alloc _ => 5
  | .box _ _ => 5
  | .buildSlice _ _ _ => 5
  | .makeSlice _ _ _ => 5
  | .makeMap _ _ => 5
  | .convert _ _ _ => 6
  | .call c => match c.callee with
    | .builtin .append => 7
    | .builtin .unsafeString => 8
    | .builtin _ => 9
    | _ => 10
  | _ => 99
def extB (P : Program) (f : Nat) : Bool :=
  match P.funcs[f]? with
  | some fn => fn.body.isNone
  | none => false
structure Same (P : Program) where
  is : Nat → Bool
  ok : ∀ f, is f = true → ∀ x w, (callFunc f #[x]).run P w = .ok (.value x) w
def sameA {P : Program} (S : Same P) (ρ : ASlots) : Op → Option AV
  | .call c => match c.callee, c.args.toList with
    | .value (.func f), [x] => bif S.is f then aev ρ x else none
    | _, _ => none
  | _ => none
def extA {P : Program} (S : Same P) (ρ : ASlots) (ty : TypeId) : Op → Option AV
  | .call c => match c.callee with
    | .value (.func f) => bif extB P f then (match sameA S ρ (.call c) with
      | some v => some v
      | none => semA P ρ ty (.call c)) else none
    | _ => none
  | _ => none
def asVal : Option AV → Option Res
  | some v => some (.val v)
  | none => none
def asUp : Option (List MC) → Option Res
  | some v => some (.up v)
  | none => none
def execA {P : Program} (S : Same P) (k : Nat) (ρ : ASlots) (M : List MC) (o : Oper) : Option Res :=
  match cls o.op with
  | 0 => asVal (moveA P ρ o.op)
  | 1 => match moveA P ρ o.op with
    | some v => some (.val v)
    | none => asVal (semA P ρ o.type o.op)
  | 2 => asVal (valA P ρ o.op)
  | 3 => asVal (readA P ρ M o.op)
  | 4 => asUp (upA P ρ M o.op)
  | 5 => mkA P k ρ o.op
  | 6 => match semA P ρ o.type o.op with
    | some v => some (.val v)
    | none => asVal (readA P ρ M o.op)
  | 7 => appA P k ρ M o.op
  | 8 => ustrA P k ρ M o.op
  | 9 => match valA P ρ o.op with
    | some v => some (.val v)
    | none => match readA P ρ M o.op with
      | some v => some (.val v)
      | none => asVal (semA P ρ o.type o.op)
  | 10 => asVal (extA S ρ o.type o.op)
  | _ => none
def entA (P : Program) (ρ : ASlots) : Op → Option (Nat × List AV)
  | .call c => match c.callee with
    | .value x => match aev ρ x, aevs ρ c.args.toList with
      | some (.fn f fst cap), some vs => bif callable P f then some (f, fst ++ vs ++ cap) else none
      | _, _ => none
    | _ => none
  | _ => none
section
variable {P : Program} {S : Same P} {o : Oper} {ρ : ASlots} {M : List MC} {k : Nat} {r : Res} {v : AV}
theorem sameA_rd {σ : Nat → Nat} {Γ : List Chunk} (h : sameA S ρ o.op = some v) : Rd P o (inst σ ρ) Γ (val σ v) := by
  generalize ho : o.op = op at h
  unfold sameA at h
  split at h
  · rename_i c
    obtain ⟨cl, as, ts⟩ := c
    simp only at h
    split at h
    · rename_i f x h2
      have e1 : as = #[x] := by rw [← Array.toList_inj]; exact h2
      subst e1
      cases hs : S.is f with
      | false => rw [hs] at h; cases h
      | true =>
        rw [hs] at h; simp only [cond_true] at h
        have hx := ev_inst (σ := σ) h
        exact fun a w ha _ => by
          unfold execOp
          have hf : a.eval (.func f) = .func (.func f) #[] #[] := rfl
          simp [ho, resolve, hf, Deferred.ofValue, invoke, ha.eval hx, S.ok f hs]
    · cases h
  · cases h
theorem sameA_bel {op : Op} (hk : 4096 ≤ k) (hb : belS k ρ) (h : sameA S ρ op = some v) : bel k v := by
  unfold sameA at h
  split at h
  · split at h
    · cases hs : S.is _ with
      | false => rw [hs] at h; cases h
      | true => rw [hs] at h; exact bel_aev hk hb h
    · cases h
  · cases h
theorem extA_ok (hk : 4096 ≤ k) (hb : belS k ρ) (h : extA S ρ o.type o.op = some v) : ResOk P o ρ M k (.val v) := by
  generalize ho : o.op = op at h
  unfold extA at h
  split at h
  · split at h
    · cases he : extB P _ with
      | false => rw [he] at h; cases h
      | true =>
        rw [he] at h; simp only [cond_true] at h
        split at h
        · rename_i v' hv
          cases h
          exact ⟨sameA_bel hk hb hv, fun σ => sameA_rd (by rw [ho]; exact hv)⟩
        · exact ⟨bel_semA h, fun σ => semA_rd (by rw [ho]; exact h)⟩
    · cases h
  · cases h
theorem asVal_some {x : Option AV} (h : asVal x = some r) : ∃ v, x = some v ∧ r = .val v := by
  cases x with
  | none => cases h
  | some v => cases h; exact ⟨v, rfl, rfl⟩
theorem asUp_some {x : Option (List MC)} (h : asUp x = some r) : ∃ v, x = some v ∧ r = .up v := by
  cases x with
  | none => cases h
  | some v => cases h; exact ⟨v, rfl, rfl⟩
theorem execA_ok (hk : 4096 ≤ k) (hb : belS k ρ) (hM : belM k M) (h : execA S k ρ M o = some r) : ResOk P o ρ M k r := by
  have mv : ∀ {v}, moveA P ρ o.op = some v → ResOk P o ρ M k (.val v) := fun h => ⟨bel_moveA hk hb h, fun σ => moveA_rd h⟩
  have vl : ∀ {v}, valA P ρ o.op = some v → ResOk P o ρ M k (.val v) := fun h => ⟨bel_valA hk hb h, fun σ => valA_rd h⟩
  have sm : ∀ {v}, semA P ρ o.type o.op = some v → ResOk P o ρ M k (.val v) := fun h => ⟨bel_semA h, fun σ => semA_rd h⟩
  unfold execA at h
  split at h
  · obtain ⟨v, h1, rfl⟩ := asVal_some h; exact mv h1
  · split at h
    · rename_i v h1; cases h; exact mv h1
    · obtain ⟨v, h1, rfl⟩ := asVal_some h; exact sm h1
  · obtain ⟨v, h1, rfl⟩ := asVal_some h; exact vl h1
  · obtain ⟨v, h1, rfl⟩ := asVal_some h; exact readA_ok hk hb hM h1
  · obtain ⟨v, h1, rfl⟩ := asUp_some h; exact upA_ok hk hb hM h1
  · exact mkA_ok hk hb h
  · split at h
    · rename_i v h1; cases h; exact sm h1
    · obtain ⟨v, h1, rfl⟩ := asVal_some h; exact readA_ok hk hb hM h1
  · exact appA_ok hk hb hM h
  · exact ustrA_ok hk hM h
  · split at h
    · rename_i v h1; cases h; exact vl h1
    · split at h
      · rename_i v h1; cases h; exact readA_ok hk hb hM h1
      · obtain ⟨v, h1, rfl⟩ := asVal_some h; exact sm h1
  · obtain ⟨v, h1, rfl⟩ := asVal_some h; exact extA_ok hk hb h1
  · cases h
theorem entA_ok {f : Nat} {vs : List AV} (h : entA P ρ o.op = some (f, vs)) (σ : Nat → Nat) : Ent P o (inst σ ρ) f (vals σ vs) := by
  generalize ho : o.op = op at h
  unfold entA at h
  split at h
  · rename_i c
    obtain ⟨cl, as, ts⟩ := c
    simp only at h
    split at h
    · rename_i x
      split at h
      · rename_i f' fst cap us hx hu
        cases hc : callable P f' with
        | false => rw [hc] at h; cases h
        | true =>
          rw [hc] at h; cases h
          have := Ent.func (P := P) (ρ := inst σ ρ) (xs := as.toList) (ts := ts) (by rw [ho]) (evv (σ := σ) hx) (evs_inst hu) hc
          rw [vals_map, List.map_append, List.map_append, ← vals_map, ← vals_map, ← vals_map]
          exact this
      · cases h
    · cases h
  · cases h
theorem entA_bel {op : Op} {f : Nat} {vs : List AV} (hk : 4096 ≤ k) (hb : belS k ρ) (h : entA P ρ op = some (f, vs)) : bels k vs := by
  unfold entA at h
  split at h
  · split at h
    · split at h
      · rename_i f' fst cap us hx hu
        cases hc : callable P f' with
        | false => rw [hc] at h; cases h
        | true =>
          rw [hc] at h; cases h
          have h1 := bel_aev hk hb hx
          simp only [bel] at h1
          exact bels_app (bels_app h1.1 (bel_aevs hk hb hu)) h1.2
      · cases h
    · cases h
  · cases h
end
end Go.In

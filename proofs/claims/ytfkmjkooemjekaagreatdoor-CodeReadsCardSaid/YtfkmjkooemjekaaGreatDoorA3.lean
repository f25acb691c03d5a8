/- The interpreter of known runs: operations that look at slots alone. Own text. -/
import Derived.Test.YtfkmjkooemjekaaGreatDoorA2
import Derived.Laws.Strings2
import Derived.Laws.Concat
import Derived.Lib.Builder
set_option linter.unusedVariables false
set_option linter.unusedSimpArgs false
namespace Go.In
open Go.RowKit Go.Flow Go.Mem Go.Sep
mutual
def gnd : AV → Bool
  | .ptr _ _ => false
  | .sl _ _ _ _ => false
  | .slu _ _ _ _ _ => false
  | .mp _ => false
  | .fn _ a b => gnds a && gnds b
  | .ifc _ v => gnd v
  | .agg l => gnds l
  | .tup l => gnds l
  | _ => true
def gnds : List AV → Bool
  | [] => true
  | v :: l => gnd v && gnds l
end
mutual
theorem gnd_bel : ∀ (v : AV), gnd v = true → bel 0 v
  | .ptr _ _, h => by simp [gnd] at h
  | .sl _ _ _ _, h => by simp [gnd] at h
  | .slu _ _ _ _ _, h => by simp [gnd] at h
  | .mp _, h => by simp [gnd] at h
  | .fn _ a b, h => by simp only [gnd, Bool.and_eq_true] at h; simp only [bel]; exact ⟨gnds_bel a h.1, gnds_bel b h.2⟩
  | .ifc _ v, h => by simp only [gnd] at h; simp only [bel]; exact gnd_bel v h
  | .agg l, h => by simp only [gnd] at h; simp only [bel]; exact gnds_bel l h
  | .tup l, h => by simp only [gnd] at h; simp only [bel]; exact gnds_bel l h
  | .bool _, _ => by simp only [bel]
  | .int _ _, _ => by simp only [bel]
  | .str _, _ => by simp only [bel]
  | .nilp, _ => by simp only [bel]
  | .nils, _ => by simp only [bel]
  | .nilm, _ => by simp only [bel]
  | .nilf, _ => by simp only [bel]
  | .nili, _ => by simp only [bel]
  | .und, _ => by simp only [bel]
theorem gnds_bel : ∀ (l : List AV), gnds l = true → bels 0 l
  | [], _ => by simp only [bels]
  | v :: l, h => by simp only [gnds, Bool.and_eq_true] at h; simp only [bels]; exact ⟨gnd_bel v h.1, gnds_bel l h.2⟩
end
def z0 : Nat → Nat := fun _ => 0
theorem gnd_val {v : AV} (h : gnd v = true) (σ : Nat → Nat) : val σ v = val z0 v := val_ext (k := 0) (fun _ hi => absurd hi (Nat.not_lt_zero _)) v (gnd_bel v h)
def valS {α : Type} (P : Program) : Nat → Sem α → Option α
  | 0, _ => none
  | _ + 1, .pure v => some v
  | n + 1, .program k => valS P n (k P)
  | n + 1, .mark _ k => valS P n k
  | _ + 1, _ => none
theorem valS_run {α : Type} {P : Program} : ∀ {n : Nat} {x : Sem α} {v : α}, valS P n x = some v → ∀ w, x.run P w = .ok v w
  | 0, _, _, h, _ => by cases h
  | n + 1, .pure u, v, h, w => by simp only [valS, Option.some.injEq] at h; subst h; rfl
  | n + 1, .program k, v, h, w => by simp only [valS] at h; exact valS_run h w
  | n + 1, .mark m k, v, h, w => by simp only [valS] at h; exact valS_run h w
  | n + 1, .load _ _ _, v, h, w => by cases h
  | n + 1, .store _ _ _ _, v, h, w => by cases h
  | n + 1, .new _ _, v, h, w => by cases h
  | n + 1, .shape _ _, v, h, w => by cases h
  | n + 1, .freeze _ _ _, v, h, w => by cases h
  | n + 1, .frozen _ _, v, h, w => by cases h
  | n + 1, .getObj _ _, v, h, w => by cases h
  | n + 1, .setObj _ _ _, v, h, w => by cases h
  | n + 1, .choose _ _, v, h, w => by cases h
  | n + 1, .sys _ _, v, h, w => by cases h
  | n + 1, .halt _, v, h, w => by cases h
def vNext : Next → Option AV
  | .value v => back v
  | _ => none
def gev (ρ : ASlots) (x : Operand) : Option Value :=
  match aev ρ x with
  | some v => bif gnd v then some (val z0 v) else none
  | none => none
def gevs (ρ : ASlots) : List Operand → Option (List Value)
  | [] => some []
  | x :: r => match gev ρ x, gevs ρ r with
    | some v, some l => some (v :: l)
    | _, _ => none
theorem gev_ev {ρ : ASlots} {x : Operand} {v : Value} (h : gev ρ x = some v) (σ : Nat → Nat) : ev (inst σ ρ) x = some v := by
  unfold gev at h
  split at h
  · rename_i u hu
    cases hg : gnd u with
    | false => rw [hg] at h; cases h
    | true => rw [hg] at h; cases h; rw [ev_inst (σ := σ) hu, gnd_val hg]
  · cases h
theorem gevs_evs {ρ : ASlots} (σ : Nat → Nat) : ∀ {xs : List Operand} {l : List Value}, gevs ρ xs = some l → evs (inst σ ρ) xs = some l
  | [], l, h => by simp only [gevs, Option.some.injEq] at h; subst h; rfl
  | x :: r, l, h => by
    unfold gevs at h
    split at h
    · rename_i v l' h1 h2
      simp only [Option.some.injEq] at h; subst h
      simp only [evs, gev_ev h1 σ, gevs_evs σ h2]
    · cases h
def semA (P : Program) (ρ : ASlots) (ty : TypeId) : Op → Option AV
  | .binOp op t x y _ => match gev ρ x, gev ρ y with
    | some u, some v => (valS P 99 (do eqGuard op t x y u v; binOp op t u v : Sem Value)).bind back
    | _, _ => none
  | .unOp op _ x => match gev ρ x with
    | some u => (valS P 99 (Op.unary op u)).bind back
    | none => none
  | .convert s d x => match gev ρ x with
    | some u => (valS P 99 (convert s d u)).bind back
    | none => none
  | .call c => match c.callee with
    | .builtin b => match gevs ρ c.args.toList with
      | some us => (valS P 99 (builtin b c.argTypes ty (c.args.map fun | .const _ => true | _ => false) us.toArray)).bind vNext
      | none => none
    | .value (.func f) => match gevs ρ c.args.toList with
      | some us => (valS P 999 (callFunc f us.toArray)).bind vNext
      | none => none
    | _ => none
  | _ => none
section
variable {P : Program} {o : Oper} {ρ : ASlots} {Γ : List Chunk} {σ : Nat → Nat} {v : AV} {k : Nat}
theorem semA_rd (h : semA P ρ o.type o.op = some v) : Rd P o (inst σ ρ) Γ (val σ v) := by
  generalize ho : o.op = op at h
  unfold semA at h
  split at h
  · split at h
    · rename_i u u' hx hy
      obtain ⟨r, h1, h2⟩ := Option.bind_eq_some_iff.1 h
      rw [← back_val h2 σ]
      exact Rd.bin ho (gev_ev hx σ) (gev_ev hy σ) (valS_run h1)
    · cases h
  · split at h
    · rename_i u hx
      obtain ⟨r, h1, h2⟩ := Option.bind_eq_some_iff.1 h
      rw [← back_val h2 σ]
      exact fun a w ha _ => by unfold execOp; simp [ho, ha.eval (gev_ev hx σ), valS_run h1]
    · cases h
  · split at h
    · rename_i u hx
      obtain ⟨r, h1, h2⟩ := Option.bind_eq_some_iff.1 h
      rw [← back_val h2 σ]
      exact fun a w ha _ => by unfold execOp; simp [ho, ha.eval (gev_ev hx σ), valS_run h1]
    · cases h
  · rename_i c
    obtain ⟨cl, as, ts⟩ := c
    have key : ∀ {us : List Value}, gevs ρ as.toList = some us → ∀ a, Sees (inst σ ρ) a → as.map a.eval = us.toArray := fun hu a ha => by
      have := ha.evals (gevs_evs σ hu)
      rw [← Array.toList_inj]; simpa using this
    have key2 : ∀ {n : Next}, vNext n = some v → n = .value (val σ v) := fun {n} hn => by
      unfold vNext at hn
      split at hn
      · rw [back_val hn σ]
      · cases hn
    split at h
    · rename_i b hc
      simp only at hc; subst hc
      split at h
      · rename_i us hu
        obtain ⟨r, h1, h2⟩ := Option.bind_eq_some_iff.1 h
        have := key2 h2; subst this
        exact fun a w ha _ => by unfold execOp; simp only [ho, resolve, invoke, key hu a ha, Sem.run_bind, Sem.run_pure, Result.andThen_ok]; exact valS_run h1 w
      · cases h
    · rename_i f hc
      simp only at hc; subst hc
      split at h
      · rename_i us hu
        obtain ⟨r, h1, h2⟩ := Option.bind_eq_some_iff.1 h
        have := key2 h2; subst this
        exact fun a w ha _ => by
          unfold execOp
          have hf : a.eval (.func f) = .func (.func f) #[] #[] := rfl
          simp [ho, resolve, hf, Deferred.ofValue, invoke, key hu a ha, valS_run h1]
      · cases h
    · cases h
  · cases h
theorem bel_vNext {n : Next} (h : vNext n = some v) : bel k v := by
  unfold vNext at h
  split at h
  · exact bel_back h
  · cases h
theorem bel_semA {ty : TypeId} {op : Op} (h : semA P ρ ty op = some v) : bel k v := by
  unfold semA at h
  split at h
  · split at h
    · obtain ⟨r, _, h2⟩ := Option.bind_eq_some_iff.1 h; exact bel_back h2
    · cases h
  · split at h
    · obtain ⟨r, _, h2⟩ := Option.bind_eq_some_iff.1 h; exact bel_back h2
    · cases h
  · split at h
    · obtain ⟨r, _, h2⟩ := Option.bind_eq_some_iff.1 h; exact bel_back h2
    · cases h
  · split at h
    · split at h
      · obtain ⟨r, _, h2⟩ := Option.bind_eq_some_iff.1 h; exact bel_vNext h2
      · cases h
    · split at h
      · obtain ⟨r, _, h2⟩ := Option.bind_eq_some_iff.1 h; exact bel_vNext h2
      · cases h
    · cases h
  · cases h
end
end Go.In
